/- Lemmas. -/
import Derived.Test.YtepfimeihngjoaaGreatDoorYad
import Derived.Test.YtepfimeihngjoaaGreatDoorYae
set_option linter.all false
set_option maxRecDepth 100000
set_option maxHeartbeats 4000000
namespace Go.Ink
open List renaming length→J
open IntKind renaming wrap→V9
open Go.RowKit Go.Proofs.Tryz
section
attribute [local irreducible] UL bM
theorem zx{n:Int}(h:(Lit.int .u32 n).wf=true):u32 n:=by
 simp only[Lit.wf,aC,ah]at h;have h1:IntKind.u32.min=0:=rfl;have h2:IntKind.u32.max=4294967295:=rfl;rw[h1,h2]at h;exact h
theorem Xj{W:World}{t:TypeId}{k:IntKind}{c:Value}(ht:prog.underlying t=some (.int k))(h:VS prog W t [c]):∃n,c= .int k n/\(Lit.int k n).wf=true:=by
 obtain⟨n,h1,h2⟩:=h.int ht
 grind
variable{w:World}{n c:Nat}{xs:List Value}
variable{cs:List bH}
variable{ad:Addr}
theorem Oq{w0:World}{S:List Nat}{j:Nat}{v:Value}(hc:UQ cs (V6 (some ad) n c xs))(hv:xs[j]? =some v):∀w,Inv w0 S cs w->cells [(ad.add (j*1),v)] w:=λw hi z hz=>by
 rw[aQ]at hz;subst hz;rw[Nat.mul_one];exact(uq (hi.get hc)).at_ ad I j v hv
end
end Go.Ink
namespace Go.Ink
open List renaming length→J, replicate→R9
open IntKind renaming wrap→V9
open Go.RowKit Go.Proofs.Tryz
variable{j:Nat}
section
attribute [local irreducible] UL bM
theorem fis_ok(n:Int)(w:World):CW prog 104 [.i n] w (.bool (decide (0<=n)&&decide (n<4))):=by
 refine UB func104 ntmps104 ?_;exact Wp
theorem Fy(n:Int)(w:World):CW prog 268 [.i n] w (.bool (decide (16<=n)&&decide (n<256))):=by
 refine UB func268 ntmps268 ?_;exact Wp
theorem OF(bp:Nat)(B ow pr:Li)(hl:dz B ow pr)(f:Nat)(o:Int)(h1:16<=f)(h2:f<256)(h3:ow[f]? =some o)(h4:o≠ -1)(w:World)(hp:(dF bp B ow pr).ok w):
  CW prog 206 [.p bp,.i f] w (.tuple #[.i o,.bool true]):=by
 refine UB func206 ntmps206 ?_;refine eK ?_;refine UD (λw hi=>Fy f w) ?_;rw[ak (show(16:Int)<=f by omega),ak (show(f:Int)<256 by omega)];refine Uu ?_;refine υ 16384 ?_;refine Wm I I (dc (j:=f) (sz:=1) (r:=16384+f) I ir (cU I) (cU I) Uq Uq O) ?_;refine i5 (bU I I) (bL ir (cU I)) (cS hp (uu hl h3)) I (Ut ?_);refine cG I ((show(_||(o== -1))=false from by grind)) (Ux ?_);refine WB 16384 ?_;refine Zy (dc (j:=f) (sz:=1) (r:=16384+f) I ir (Zv I) (Zv I) Uq Uq O) ?_;refine dW (bL ir ne) (cS hp (uu hl h3)) I (Uu ?_);exact kV
theorem Lu(bp:Nat)(B ow pr:Li)(hl:dz B ow pr)(f a:Nat)(o:Int)(h1:16<=f)(h2:f<256)(h3:ow[f]? =some o)(h4:o≠ -1)(h5:a<64)(w:World)(hp:(dF bp B ow pr).ok w):
  CW prog 157 [.p bp,.i f,.i a] w (.bool true):=by
 refine UB func157 ntmps157 ?_;refine UE ?_;refine UD (λw hi=>OF bp B ow pr hl f o h1 h2 h3 h4 w (bH.old hp hi)) ?_;refine jF ?_;refine py ?_;refine VW ?_;rw[ak (show(0:Int)<=a by omega),ak (show(a:Int)<64 by omega)];exact ff
theorem OE(bp:Nat)(B ow pr:Li)(hl:dz B ow pr)(f a:Nat)(o b:Int)(h1:16<=f)(h2:f<256)(h3:ow[f]? =some o)(h4:o≠ -1)(h5:a<64)(h6:B[f*64+a]? =some b)(w:World)(hp:(dF bp B ow pr).ok w):
  CW prog 152 [.p bp,.i f,.i a] w (.tuple #[.int .u8 b,.bool true]):=by
 refine UB func152 ntmps152 ?_;refine fo ?_;refine UD (λw hi=>Lu bp B ow pr hl f a o h1 h2 h3 h4 h5 w (bH.old hp hi)) ?_;refine kU ?_;refine UE ?_;refine Wq401 ?_;refine dW (bL ir ne) (cS hp (pool_B h6)) I (Uu ?_);exact kV
theorem J2(bp:Nat)(B ow pr:Li)(hl:dz B ow pr)(f a:Nat)(o b:Int)(h1:16<=f)(h2:f<256)(h3:ow[f]? =some o)(h4:o≠ -1)(h5:a<64):CI prog 111 [.p bp,.i f,.i a,.int .u8 b] [dF bp B ow pr] (λv cs=>v= .bool true/\cs=[dF bp (B.set (f*64+a) b) ow pr]):=λw hi=>by
 have hb:=hl.b;refine UH func111 ntmps111 hi ?_;refine gX ?_;refine UD (λw hi=>Lu bp B ow pr hl f a o h1 h2 h3 h4 h5 w (hi.get Zh)) ?_;refine kU ?_;refine eK ?_;refine Wq401 ?_;refine QS ?_;refine Uw ?_;rw[Ka O];refine UG ?_;exact y8
theorem Dz(bp:Nat)(B ow pr:Li)(hl:dz B ow pr)(o:Nat)(ho:o<4)(w:World)(hp:(dF bp B ow pr).ok w):
  Uz prog 49 [.p bp,.i o] w [] (λv cs=>∃A c,v= .slice A (J (dU ow o 256)) c/\cs=[sl .i64 3 A (J (dU ow o 256)) c (dU ow o 256)]):=by
 refine UB func49 ntmps49 ?_;refine jG ?_;refine XL ?_;refine kU ?_;refine Uu ?_;refine dg 3 1 (Ut ?_);refine UX (λs:Nat×Option Addr×Nat=>[(0,.p bp),(1,.i o),(5,.slice s.2.1 (J (dU ow o s.1)) s.2.2),(11,.i s.1)]) (λs=>[sl .i64 3 s.2.1 (J (dU ow o s.1)) s.2.2 (dU ow o s.1)]) (λs=>s.1<=256) (λs=>256 - s.1) ((0,none,0)) O ?_;rintro⟨k,A1,c1⟩ hk;simp only at hk;dsimp only;refine Ul ?_ ?_<;>intro hc5
 .simp only[ah]at hc5;have hkl:k<J ow:=by(rw[hl.ow];omega)
  have hok:ow[k]? =some (ow[k]'hkl):=aj hkl;have hle:=Lv ow o k;refine oQ ?_;refine WB 16384 ?_;refine Zy (dc (j:=k) (sz:=1) (r:=16384+k) I ir (Zv I) (Zv I) Uq Uq O) ?_;refine dW (bL ir ne) (cS hp (uu hl hok)) I (Wj ?_ ?_)<;>intro hc7
  .have he:dU ow o (k+1)=dU ow o k++[(k:Int)]:=by(rw[uS,hok];grind)
   refine Us ?_;refine jP ?_;rintro _ _ ⟨b24,rfl,rfl⟩;refine gJ (cu (e:=3) (sz:=1) (bytes:=8) I I Za I I (λw hi=>hi.rd Zh) (ka I) gI O) I ?_;rintro _ _ ⟨A2,c2,rfl,rfl⟩;rw[show(dU ow o k).length+1=J (dU ow o (k+1)) by grind,show ints .i64 (dU ow o k)++[Value.i (k:Int)]=ints .i64 (dU ow o (k+1)) by(rw[he];exact bY _ [_])];exact Xk
  have he:dU ow o (k+1)=dU ow o k:=by(rw[uS,hok,show(some (ow[k]'hkl)==some (o:Int))=false from hc7];simp)
  exact Ys
 simp only[aa]at hc5;obtain rfl:k=256:=by omega
 refine fo ?_;exact IN
theorem Ρ(bp:Nat)(B ow pr:Li)(hl:dz B ow pr)(o:Nat)(ho:o<4)(n:Int)(hn:pr[o]? =some n)(hlt:(J (dU ow o 256):Int)<n)(f0:Nat)(h16:16<=f0)(h256:f0<256)(hf0:ow[f0]? =some (-1)):CI prog 156 [.p bp,.i o] [dF bp B ow pr] (λv cs=>∃f:Nat,16<=f/\f<256/\ow[f]? =some (-1)/\v= .tuple #[.i f,.i 0]/\cs=[dF bp (eL B f) (ow.set f o) pr]):=λw hi=>by
 have hb:=hl.b;have how:=hl.ow;refine UH func156 ntmps156 hi ?_;refine gX ?_;refine XL ?_;refine Ut ?_;refine jn ?_;refine Zs (bN (UK []) Zk ?_);refine mW ?_;refine ZE 4 ?_;refine qC ?_;refine Ld 7 16640 ?_;refine UF 8 I (dc (j:=o) (sz:=1) (r:=16640+o) I ir (Zv I) (Zv I) (λ_=>by omega) (λ_=>by omega) (by omega)) ?_;refine US 9 I (bL ir ne) (cO Zh (C1 hl hn)) ?_;refine cQ 2 Zk (VF (λw hi=>Dz bp B ow pr hl o ho w (hi.get Zh)) ?_);rintro _ _ ⟨A1,c1,rfl,rfl⟩;refine ZE 3 ?_;refine ZE 10 ?_;refine ZE 11 ?_;refine fe ?_;refine Zt (cG I ((ao (by omega))) ?_);refine eK ?_;refine UX (λk:Nat=>[(0,.p bp),(1,.i o),(6,.i (k:Int))]) (λ_=>[dF bp B ow pr]) (λk=>16<=k/\k<=f0) (λk=>f0 - k) (16) (by omega) ?_;rintro k ⟨hk1,hk2⟩;refine Vl ?_ ?_<;>intro hc6
 .have hkl:k<J ow:=by omega
  have hok:ow[k]? =some (ow[k]'hkl):=aj hkl;refine UE ?_;refine WB 16384 ?_;refine Zy (dc (j:=k) (sz:=1) (r:=16384+k) I ir (Zv I) (Zv I) (λ_=>by omega) (λ_=>by omega) (by omega)) ?_;refine dW (bL ir ne) (cO Zh (uu hl hok)) I (Vs ?_ ?_)<;>intro hc8
  .have h2:ow[k]'hkl= -1:=Do;rw[h2]at hok;refine UA ?_;refine WB 16384 ?_;refine Zy (dc (j:=k) (sz:=1) (r:=16384+k) I ir (Zv I) (Zv I) (λ_=>by omega) (λ_=>by omega) (by omega)) ?_;refine QS ?_;refine Uw ?_;rw[qY hl (show k<256 by omega)];have hl':dz B (ow.set k o) pr:=⟨hl.b,by grind,hl.pr⟩;refine UA ?_;refine Zy (gY (vs:=R9 64 (Value.int .u8 0)) Zk (.inr ⟨_,_,_,I,λ_=>I⟩)) ?_;refine py ?_;refine Zy (dc (j:=k) (sz:=64) (r:=k*64) I ir (Zv I) (Zv I) (λ_=>by omega) (λ_=>by omega) (by omega)) ?_;refine et (fN (n:=64) ir I I (λu hu=>by rw[List.eq_of_mem_replicate hu];rfl) Za (aB) (by rw[iL hl',aB];omega)) ?_;refine Uw ?_;rw[aB,J9 hl' (show k<256 by omega)];refine oQ ?_;exact vL (cs':=[row _ _ _]) (.inl I) Zu I I I ⟨k,hk1,by omega,hok,rfl,rfl⟩
  have h2:ow[k]'hkl≠ -1:=Do;have hne:k≠f0:=by(grind)
  refine kb ?_;refine Vo (k+1) (by omega)
 grind
variable{n k:Nat}
theorem LO(w:World):Uz prog 65 [] w [] (λv cs=>∃bp,v= .p bp/\cs=[dF bp (R9 16384 0) (R9 256 (-1)) (R9 4 (-1))]):=by
 have hl1:∀k,k<=256->dz (R9 16384 0) (R9 k (-1)++R9 (256 - k) 0) (R9 4 0):=λk hk=>⟨aB,by simp;omega,rfl⟩
 have hl2:∀k,k<=4->dz (R9 16384 0) (R9 256 (-1)) (R9 k (-1)++R9 (4 - k) 0):=λk hk=>⟨aB,aB,by simp;omega⟩
 refine UB func65 ntmps65 ?_;refine Ux ?_;refine Zy (gY (vs:=di (R9 16384 0) (R9 256 0) (R9 4 0)) Zk (.inl ⟨_,I,I⟩)) ?_;refine ZO λb5=>?_
 rw[<-yg 256 (-1:Int) 0];refine eK ?_;refine UX (λk:Nat=>[(1,.p b5),(6,.i (k:Int))]) (λk=>[dF b5 (R9 16384 0) (R9 k (-1)++R9 (256 - k) 0) (R9 4 0)]) (λk=>k<=256) (λk=>256 - k) (0) O ?_;rintro k hk;refine Ul ?_ ?_<;>intro hc3
 .simp only[ah]at hc3;refine jG ?_;refine WB 16384 ?_;refine Zy (dc (j:=k) (sz:=1) (r:=16384+k) I ir (Zv I) (Zv I) Uq Uq O) ?_;refine et (iJ ir I I I Za (by rw[iL (hl1 k hk)];omega)) ?_;refine Uw ?_;rw[qY (hl1 k hk) O,yf _ _ O];exact Wf
 simp only[aa]at hc3;obtain rfl:k=256:=by omega
 refine UG ?_;rw[CA,<-yg 4 (-1:Int) 0];refine Ut ?_;refine UX (λk:Nat=>[(1,.p b5),(15,.i (k:Int))]) (λk=>[dF b5 (R9 16384 0) (R9 256 (-1)) (R9 k (-1)++R9 (4 - k) 0)]) (λk=>k<=4) (λk=>4 - k) (0) O ?_;rintro k hk;refine Ul ?_ ?_<;>intro hc8
 .simp only[ah]at hc8;refine jG ?_;refine WB 16640 ?_;refine Zy (dc (j:=k) (sz:=1) (r:=16640+k) I ir (Zv I) (Zv I) Uq Uq O) ?_;refine et (iJ ir I I I Za (by rw[iL (hl2 k hk)];omega)) ?_;refine Uw ?_;rw[qX (hl2 k hk),yf _ _ O];exact Wf
 simp only[aa]at hc8;obtain rfl:k=4:=by omega
 refine Ux ?_;rw[CA];refine Uu ?_;refine Vd ([row _ _ _]) ?_;exact⟨_,I,I⟩
theorem GX(bp:Nat)(B ow pr:Li)(hl:dz B ow pr)(o n:Nat)(ho:o<4)(hn:n<=64)(h1:pr[o]? =some (-1))(hs:(n:Int)+gQ pr 4<=240)(hb:∀x,x∈pr->x<=1000):CI prog 158 [.p bp,.i o,.i n] [dF bp B ow pr] (λv cs=>v= .i 0/\cs=[dF bp B ow (pr.set o n)]):=λw hi=>by
 have hpl:=hl.pr;have hbd:∀k,k<=4->0<=gQ pr k/\gQ pr k<=1000*(k:Int):=by
  intro k
  induction k with
  |zero=>intro _;exact⟨by simp[gQ],by simp[gQ]⟩
  |succ k ih=>
   intro hk;have h1:=ih O;have hkl:k<J pr:=by omega
   have h2:=hb _ (List.getElem_mem hkl);rw[nZ hkl];omega
 refine UH func158 ntmps158 hi ?_;refine eK ?_;refine XL ?_;refine fo ?_;refine cG I (Do) (Uu ?_);refine Ra ?_;refine dW (bL ir ne) (cO Zh (C1 hl h1)) I (Ut ?_);refine jn ?_;refine fo ?_;have e0:gQ pr 0=0:=rfl;refine py ?_;refine WB 16640 ?_;refine dW (cj (vs:=ints .i64 pr) ir (λw=>by rw[du,hpl];rfl) (Zv rfl)) (cI (o:=16640) Zh (EU hl)) rfl (Ut ?_);refine UX (λk:Nat=>[(0,.p bp),(1,.i o),(2,.i n),(7,.i (n+gQ pr k)),(34,.agg (ints .i64 pr).toArray),(35,.i (k:Int))]) (λ_=>[dF bp B ow pr]) (λk=>k<=4) (λk=>4 - k) (0) O ?_;rintro k hk;refine Ul ?_ ?_<;>intro hc7
 .simp only[ah]at hc7;have hkl:k<J pr:=by omega
  have hbk:=hbd k hk;have hbk2:=hb _ (List.getElem_mem hkl);refine Wq469 ?_;refine dW (dr (oX I) (oX I) (show V9 .i64 _=n+gQ pr (k+1) by rw[nZ hkl];refine(aN _ ⟨?_,?_⟩).trans O<;>split<;>omega)) (λ_ _=>trivial) I ?_;refine kb ?_;refine Vo (k+1) O
 simp only[aa]at hc7;obtain rfl:k=4:=by omega
 refine fo ?_;refine cG I ((ao O)) (UG ?_);refine Ra ?_;refine QS ?_;refine Uw ?_;rw[qX hl];refine UG ?_;exact y8
theorem nnew_ok(bp:Nat)(B ow pr:Li)(hl:dz B ow pr)(o n:Nat)(ho:o<4)(hn0:1<=n)(hn:n<=64)(h1:pr[o]? =some (-1))(hs:(n:Int)+gQ pr 4<=240)(hb:∀x,x∈pr->x<=1000):CI prog 113 [.p bp,.i o,.i n] [dF bp B ow pr] (λv cs=>∃bt bf bg,v= .tuple #[.p bt,.i 0]/\cs=[dF bp B ow (pr.set o n),jS bt bp o bf bg n,Xr bf n (R9 n (-1)),gdC bg n (R9 n false)]):=λw hi=>by
 refine UH func113 ntmps113 hi ?_;refine jF ?_;refine UE ?_;refine cG I (Do) (UG ?_);refine U5 ([dF bp B ow pr]) (λw hi hin=>GX bp B ow pr hl o n ho hn h1 hs hb w hin) ?_;refine UE ?_;refine jn ?_;refine Us ?_;refine sS ?_;refine y5 ?_;refine ZE 4 ?_;refine rU 3 5 Zk ?_ ?_
 .refine jX I I (jT (bytes:=8) (n:=n) I I I I I I I O gI) ZJ I ?_;rintro _ _ ⟨b39,rfl,rfl⟩;refine cQ 5 Zk (jX I I (jT (bytes:=1) (n:=n) I I I I I I I O gI) ZJ I ?_);rintro _ _ ⟨b41,rfl,rfl⟩;refine ZE 6 ?_;refine iW ?_;refine y7 ?_;rintro _ _ ⟨b43,rfl,rfl⟩;refine ZE 8 ?_;refine fe ?_;refine Wq97 ?_;rintro k hk;refine Ul ?_ ?_<;>intro hc8
  .exact Wx45_
  simp only[aa]at hc8;obtain rfl:k=n:=by omega
  exact Wq388
 refine jX I I (jT (bytes:=1) (n:=n) I I I I I I I O gI) ZJ I ?_;rintro _ _ ⟨b41,rfl,rfl⟩;refine cQ 3 Zk (jX I I (jT (bytes:=8) (n:=n) I I I I I I I O gI) ZJ I ?_);rintro _ _ ⟨b39,rfl,rfl⟩;refine ZE 6 ?_;refine iW ?_;refine y7 ?_;rintro _ _ ⟨b43,rfl,rfl⟩;refine ZE 8 ?_;refine fe ?_;refine Wq97 ?_;rintro k hk;refine Ul ?_ ?_<;>intro hc8
 .exact Wx45_
 simp only[aa]at hc8;obtain rfl:k=n:=by omega
 exact Wq388
section
variable{L:ez}{M:Uy}{k:Cb}
theorem dK.putF(h:dK L M k){p j f:Nat}{b:Int}(hj:j<64)(hb:0<=b/\b<=255)(hf:k.fr[p]? =some (f:Int)):dK L (M.put (p*64+j) b) {k with B:=k.B.set (f*64+j) b}:=by
 have hpl:p<L.n:=by have:=(ap.1 hf).1;rw[h.fr]at this;exact this
 have hBl:=h.pl.b;have hf256:f<256:=by
  rcases h.SR p hpl with⟨h1,_⟩|⟨f',h1,h2,h3,_⟩
  .grind
  grind
 refine⟨⟨by grind,h.pl.ow,h.pl.pr⟩,h.o4,h.n1,h.n64,h.fr,h.gd,by show(M.data.set _ _).length=_;grind [h.dl],by show(M.SD.set _ _).length=_;grind [h.tl],?_,?_,h.inj,?_,h.prom,h.prs,h.cap⟩
 .intro x hx;rcases List.mem_or_eq_of_mem_set hx with h1|h1
  .exact h.db x h1
  omega
 .intro q hq;show(k.fr[q]? =some (-1)/\∀i,i<64->(M.data.set (p*64+j) b)[q*64+i]? =some 0)\/(∃g:Nat,k.fr[q]? =some (g:Int)/\16<=g/\g<256/\k.ow[g]? =some (L.o:Int)/\∀i,i<64->(k.B.set (f*64+j) b)[g*64+i]? =(M.data.set (p*64+j) b)[q*64+i]?);rcases h.SR q hq with⟨h1,h2⟩|⟨g,h1,h2,h3,h4,h5⟩
  .grind
  right;refine⟨g,h1,h2,h3,h4,λi hi=>?_⟩;by_cases hqp:q=p
  .grind
  have hgf:g≠f:=by
   rintro rfl;exact hqp (h.inj q p g h1 hf)
  grind
 intro g hg;show _\/_\/(_/\_/\∀i,i<64->(k.B.set (f*64+j) b)[g*64+i]? =_);rcases h.held g hg with h1|h1|⟨h1,h2,h3⟩
 .grind
 .grind
 refine .inr (.inr ⟨h1,h2,λi hi=>?_⟩);have hgf:g≠f:=by
  rintro rfl;rcases h.SR p hpl with⟨h4,_⟩|⟨f',h4,_,_,h5,_⟩
  .grind
  grind [ez.oth]
 grind
theorem dK.map(h:dK L M k){p f:Nat}(hp:p<L.n)(hf:k.fr[p]? =some (-1))(h16:16<=f)(h256:f<256)(hw:k.ow[f]? =some (-1)):dK L M {k with B:=eL k.B f,ow:=k.ow.set f L.o,fr:=k.fr.set p f}:=by
 have hBl:=h.pl.b;have howl:=h.pl.ow;have hfl:=h.fr;have hnof:∀q:Nat,k.fr[q]? ≠some (f:Int):=λq hq=>by
  have hql:q<L.n:=by have:=(ap.1 hq).1;rw[h.fr]at this;exact this
  rcases h.SR q hql with⟨h1,_⟩|⟨g,h1,_,_,h4,_⟩
  .grind
  grind
 have hz:∀j,j<64->M.data[p*64+j]? =some 0:=by
  rcases h.SR p hp with⟨_,h2⟩|⟨g,h1,_⟩
  .exact h2
  grind
 refine⟨⟨xu hBl h256,by grind,h.pl.pr⟩,h.o4,h.n1,h.n64,by grind,h.gd,h.dl,h.tl,h.db,?_,?_,?_,h.prom,h.prs,h.cap⟩
 .intro q hq;show((k.fr.set p (f:Int))[q]? =some (-1)/\∀i,i<64->M.data[q*64+i]? =some 0)\/(∃g:Nat,(k.fr.set p (f:Int))[q]? =some (g:Int)/\16<=g/\g<256/\(k.ow.set f (L.o:Int))[g]? =some (L.o:Int)/\∀i,i<64->(eL k.B f)[g*64+i]? =M.data[q*64+i]?);by_cases hqp:q=p
  .grind [zq]
  rw[List.getElem?_set_ne O];rcases h.SR q hq with h1|⟨g,h1,h2,h3,h4,h5⟩
  .grind
  grind [pK]
 .intro a b g ha hb;show a=b
  change (k.fr.set p (f:Int))[a]? =_ at ha
  change (k.fr.set p (f:Int))[b]? =_ at hb
  by_cases hap:a=p
  .grind
  by_cases hbp:b=p
  .grind
  rw[List.getElem?_set_ne O]at ha hb;exact h.inj a b g ha hb
 intro g hg;show(_/\(k.ow.set f (L.o:Int))[g]? =some (-1))\/(_/\(k.ow.set f (L.o:Int))[g]? =some (L.o:Int)/\∃q:Nat,(k.fr.set p (f:Int))[q]? =some (g:Int))\/(_/\(k.ow.set f (L.o:Int))[g]? =_/\∀i,i<64->(eL k.B f)[g*64+i]? =_);have hhe:=h.held g hg;by_cases hgf:g=f
 .subst hgf;right;left;refine⟨?_,by grind,p,by grind⟩
  grind [ez.oth]
 rw[List.getElem?_set_ne O];rcases hhe with h1|⟨h0,h1,q,hq⟩|⟨h1,h2,h3⟩
 .grind
 .right;left;refine⟨h0,h1,q,?_⟩
  grind
 grind [pK]
end
def Uy.new(n:Nat):Uy:=⟨R9 (n*64) 0,R9 64 false⟩
theorem dK.new{L:ez}(ho:L.o<4)(h1:1<=L.n)(h64:L.n<=64){pr:Li}(hl:dz L.gB L.gw pr)(hg:L.gp=pr.set L.o L.n)(hno:∀x,x∈L.gw->x≠(L.o:Int))(hc:L.n<=J ((List.range' 16 240).filter (λf=> !L.oth f))):
  dK L (Uy.new L.n) ⟨L.gB,L.gw,L.gp,R9 L.n (-1),R9 L.n false⟩:=by
 refine⟨⟨hl.b,hl.ow,by grind [hl.pr]⟩,ho,h1,h64,aB,aB,aB,aB,?_,?_,?_,?_,?_,rfl,hc⟩
 .intro x hx;have:=List.eq_of_mem_replicate hx;omega
 .intro p hp;left;refine⟨by grind,λj hj=>?_⟩;show(R9 (L.n*64) (0:Int))[p*64+j]? =_
  grind
 .grind
 .grind [hl.ow,ez.oth]
 grind [hl.pr]
variable{L:ez}
variable{tu:List Bool}
theorem yq(bt bp o bf bg n:Nat)(w:World)(h:(jS bt bp o bf bg n).ok w):CW prog 99 [.p bt] w (.i n):=by
 refine UB func99 ntmps99 ?_;refine vF ?_;exact vG
theorem RE(bt bp o bf bg n p:Nat)(w:World)(h:(jS bt bp o bf bg n).ok w):CW prog 155 [.p bt,.i p] w (.bool (decide (p<n))):=by
 refine UB func155 ntmps155 ?_;refine jG ?_;refine i5 (bP I I) (bL ir (cU I)) (cS gx I) I (vE ?_);rw[ak (show(0:Int)<=p by omega),show decide ((p:Int)<n)=decide (p<n)from decide_eq_decide.2 O];exact ff
theorem lO(bt bp o bf bg n p:Nat)(fr:Li)(f:Int)(hp:p<n)(hf:fr[p]? =some f)(w:World)(h:(jS bt bp o bf bg n).ok w)(h2:(Xr bf n fr).ok w):
  CW prog 109 [.p bt,.i p] w (vd f):=by
 have hrd:=ee h2;refine UB func109 ntmps109 ?_;refine gX ?_;refine UD (λw hi=>RE bt bp o bf bg n p w (bH.old h hi)) ?_;rw[ak hp];refine Uu ?_;refine i5 (bU I I) (bL ir (cU I)) (cS gx I) I (ZB ?_);refine Wm I I (cW (j:=p) I ir (cU I) (cU I) Uq Uq) ?_;refine i5 (bU I I) (bL ir (cU I)) (dG hrd (bX hf)) I (Wj ?_ ?_)<;>intro hc1
 .have hc:(f== -1)=true:=hc1;simp only[vd,hc,ae];refine UG ?_;exact kV
 have hc:(f== -1)=false:=hc1;simp only[vd,hc,ac];refine Ux ?_;refine BT ?_;refine ZA ?_;refine Zy (cW (j:=p) I ir (Zv I) (Zv I) Uq Uq) ?_;refine dW (bL ir ne) (dG hrd (bX hf)) I (Uu ?_);exact kV
theorem Ν(bt bp o bf bg n p:Nat)(B ow pr fr:Li)(hl:dz B ow pr)(ho:o<4)(hn:pr[o]? =some (n:Int))(hlt:J (dU ow o 256)<n)(f0:Nat)(h16:16<=f0)(h256:f0<256)(hf0:ow[f0]? =some (-1))(hp:p<n)(hf:fr[p]? =some (-1)):CI prog 110 [.p bt,.i p] [jS bt bp o bf bg n,Xr bf n fr,dF bp B ow pr] (λv cs=>∃f:Nat,16<=f/\f<256/\ow[f]? =some (-1)/\v= .tuple #[.i f,.i 0]/\cs=[dF bp (eL B f) (ow.set f o) pr,jS bt bp o bf bg n,Xr bf n (fr.set p f)]):=λw hi=>by
 refine UH func110 ntmps110 hi ?_;refine gX ?_;refine UD (λw hi=>RE bt bp o bf bg n p w (hi.get Zh)) ?_;rw[ak hp];refine kU ?_;refine Ux ?_;refine UD (λw hi=>lO bt bp o bf bg n p fr (-1) hp hf w (hi.get Zh) (hi.get Zh)) ?_;refine fo ?_;refine jn ?_;refine Us ?_;refine bN (UK [8]) Zk (rK ?_);refine sP ?_;refine Ld 6 1 ?_;refine ZG 7 ?_;refine fS ?_;refine rH ([dF bp B ow pr]) (λw hi hin=>Ρ bp B ow pr hl o ho n hn O f0 h16 h256 hf0 w hin) ?_;rintro _ _ ⟨f,hf1,hf2,hf3,rfl,rfl⟩;refine qE ?_;refine rJ ?_;refine fe ?_;refine UG ?_;refine mV ?_;refine Ux ?_;refine Zy (bW (j:=p) (sz:=1) (r:=p) I ir (Zv I) (Zv I) Uq Uq O) ?_;refine zc ?_;refine Uw ?_;rw[eh];refine gX ?_;exact vL (cs':=[row _ _ _,row _ _ _,slv _ _ _ _ _ _]) (.inl I) Zu I I I ⟨f,hf1,hf2,hf3,I,I⟩
variable{d:Li}{a:Nat}
theorem j4(L:ez)(M:Uy)(w:World)(h:(eY L M).ok w):CW prog 36 [.p L.bm] w (.w (L.n*64:Nat)):=by
 obtain⟨k,hr,h1,h2,h3,h4⟩:=qg h;have n64:=hr.n64;refine UB func36 ntmps36 ?_;refine vF ?_;refine UD (λw hi=>yq L.bt L.bp L.o L.bf L.bg L.n w (bH.old h2 hi)) ?_;refine mL ?_;refine Zy (fL (Zv I) (Zv I) (show V9 .u32 ((V9 .u32 (L.n:Int))*64)=((L.n*64:Nat):Int) by rw[u32_wrap_id (L.n:Int) O O,u32_wrap_id _ O O];omega)) ?_;exact oR
theorem xL(a:Nat)(ha:a<=4294967295)(w:World):CW prog 108 [.w a] w (.tuple #[.i (a/64:Nat),.i (a%64:Nat)]):=by
 refine UB func108 ntmps108 ?_;refine UE ?_;refine Y8 ?_;refine sO ?_;refine ZA ?_;refine Zy (fH (Zv I) (Zv I) O (show _=((a%64:Nat):Int)from by grind)) ?_;refine sO ?_;refine Uu ?_;exact kV
theorem wG(L:ez)(M:Uy)(a n:Nat)(ha:a<=4294967295)(hn:n<=1000)(w:World)(h:(eY L M).ok w):CW prog 100 [.p L.bm,.w a,.i n] w (.bool (decide (a+n<=L.n*64))):=by
 obtain⟨k,hr,_⟩:=qg h;have n64:=hr.n64;refine UB func100 ntmps100 ?_;refine UG ?_;refine pG ?_;refine ZA ?_;refine pG ?_;refine Zy (dr (Zv I) (Zv I) (IntWalk.u64_in _ ⟨by omega,by omega⟩)) ?_;refine ZA ?_;refine UD (λw hi=>j4 L M w (bH.old h hi)) ?_;refine pG ?_;refine Uu ?_;refine VW ?_;rw[show decide ((a:Int)+n<=((L.n*64:Nat):Int))=decide (a+n<=L.n*64)from decide_eq_decide.2 O];exact ff
theorem yc(L:ez)(M:Uy)(a:Nat)(ha:a<L.n*64)(w:World)(h:(eY L M).ok w):CW prog 101 [.p L.bm,.w a] w (.int .u8 (gB M.data a)):=by
 obtain⟨k,hr,h1,h2,h3,h4⟩:=qg h;have n64:=hr.n64;have hp:a/64<L.n:=by omega
 have hj:a%64<64:=by omega
 have hdl:=hr.dl;have hda:M.data[a/64*64+a%64]? =some (gB M.data a):=by rw[show a/64*64+a%64=a by omega];exact sK O
 rcases hr.SR (a/64) hp with⟨f1,f2⟩|⟨f,f1,f2,f3,f4,f5⟩
 .have hz:gB M.data a=0:=by have:=f2 (a%64) hj;rw[hda]at this;exact aG this
  rw[hz];refine UB func101 ntmps101 ?_;refine UG ?_;refine UD (λw hi=>xL a O w) ?_;refine fo ?_;refine BT ?_;refine ZA ?_;refine UD (λw hi=>lO L.bt L.bp L.o L.bf L.bg L.n (a/64) k.fr (-1) hp f1 w (bH.old h2 hi) (bH.old h3 hi)) ?_;refine jG ?_;refine mV ?_;refine Ux ?_;exact vB
 have hb:k.B[f*64+a%64]? =some (gB M.data a):=by rw[f5 _ hj,hda]
 refine UB func101 ntmps101 ?_;refine UG ?_;refine UD (λw hi=>xL a O w) ?_;refine fo ?_;refine BT ?_;refine ZA ?_;refine UD (λw hi=>lO L.bt L.bp L.o L.bf L.bg L.n (a/64) k.fr f hp f1 w (bH.old h2 hi) (bH.old h3 hi)) ?_;rw[pv];refine qB ?_;refine Ux ?_;refine BT ?_;refine py ?_;refine UD (λw hi=>OE L.bp k.B k.ow k.pr hr.pl f (a%64) L.o _ f2 f3 f4 O hj hb w (bH.old h1 hi)) ?_;refine jG ?_;exact vB
theorem rput_in(L:ez)(M:Uy)(a:Nat)(ha:a<L.n*64)(b:Int)(hb:0<=b/\b<=255)(w:World)(k:Cb)(hr:dK L M k)(hi:Inv w (bK (zi L M.SD k)) (zi L M.SD k) w):
  Uz prog 64 [.p L.bm,.w a,.int .u8 b] w (zi L M.SD k) (λv cs=>v= .bool true/\∃k',dK L (M.put a b) k'/\cs=zi L (M.put a b).SD k'):=by
 have n64:=hr.n64;have o4:=hr.o4;have hp:a/64<L.n:=by omega
 have hj:a%64<64:=by omega
 have hdl:=hr.dl;have htl:=hr.tl;have ea:a/64*64+a%64=a:=by omega
 obtain⟨hb0,hb1⟩:=hb;have his:∀w0 S w,Inv w0 S (zi L M.SD k) w->(eY L M).ok w:=λw0 S w hi=>(hi.Tf (rest:=[]) (bs:=[L.bp,L.bt,L.bf,L.bg,L.bm]) (F:=zi L M.SD) (hb:=λ_=>I) (p:=dK L M) k hr).ok _ (List.mem_cons_self ..)
 rcases hr.SR (a/64) hp with⟨f1,f2⟩|⟨f,f1,f2,f3,f4,f5⟩
 .by_cases hb0':b=0
  .subst hb0';have hfin:=hr.put0 hj hp f1;rw[ea]at hfin;refine UH func64 ntmps64 hi ?_;unfold zi at his|-;refine Wq409 ?_;refine jn ?_;refine UG ?_;refine Z5 ?_;refine Uw ?_;rw[ny O];refine jG ?_;refine io (bU I I) I I (Zy (Nx (q:=false) (Zv I) ⟨_,I,λ_ e=>by simp at e⟩) ?_);refine Ut ?_;refine YG ?_;exact⟨I,k,hfin,I⟩
  obtain⟨f0,g1,g2,g3⟩:=hr.free f1;refine UH func64 ntmps64 hi ?_;unfold zi at his|-;refine Wq409 ?_;refine bV I (Do) (eK ?_);refine WB 66 ?_;refine dW (bL ir ne) (cO (o:=66) Zh (uA htl)) I (py ?_);refine jn ?_;refine eK ?_;refine dE ([jS L.bt L.bp L.o L.bf L.bg L.n,Xr L.bf L.n k.fr,dF L.bp k.B k.ow k.pr]) (λw hi hin=>Ν L.bt L.bp L.o L.bf L.bg L.n (a/64) k.B k.ow k.pr k.fr hr.pl o4 hr.prom (hr.heldLt f1) f0 g1 g2 g3 hp f1 w hin) ?_;rintro _ _ ⟨f,m1,m2,m3,rfl,rfl⟩;have hmap:=hr.map hp f1 m1 m2 m3;have hfin:=hmap.putF (j:=a%64) (b:=b) (f:=f) hj ⟨hb0,hb1⟩ (show(k.fr.set (a/64) (f:Int))[a/64]? =_ by grind);rw[ea]at hfin;have hpl':=hmap.pl;refine iR ?_;refine jn ?_;refine fo ?_;refine Z5 ?_;refine Uw ?_;rw[ny O];refine jG ?_;refine kt (bU I I) I (eE ([dF L.bp (eL k.B f) (k.ow.set f L.o) k.pr]) I (λ_ _=>I) Zi (λw hi hin=>J2 L.bp (eL k.B f) (k.ow.set f L.o) k.pr hpl' f (a%64) L.o b m1 m2 (show(k.ow.set f (L.o:Int))[f]? =some (L.o:Int) by grind) O hj w hin)) rfl ?_;refine Vb ?_;refine Uu ?_;refine bI [dF L.bp ((eL k.B f).set (f*64+a%64) b) (k.ow.set f L.o) k.pr,jS L.bt L.bp L.o L.bf L.bg L.n,Xr L.bf L.n (k.fr.set (a/64) f),gdC L.bg L.n k.gd,sc L (M.SD.set (a/64) true)] Zj (YG ?_);exact⟨I,_,hfin,I⟩
 have hfin:=hr.putF (j:=a%64) (b:=b) hj ⟨hb0,hb1⟩ f1;rw[ea]at hfin;refine UH func64 ntmps64 hi ?_;unfold zi at his|-;refine eK ?_;refine Wq200 ?_;refine jG ?_;refine UD (λw hi=>lO L.bt L.bp L.o L.bf L.bg L.n (a/64) k.fr f hp f1 w (hi.get Zh) (hi.get Zh)) ?_;rw[pv];refine xt ?_;refine jn ?_;refine UG ?_;refine Z5 ?_;refine Uw ?_;rw[ny O];refine jG ?_;refine kt (bU I I) I (eE ([dF L.bp k.B k.ow k.pr]) I (λ_ _=>I) Zi (λw hi hin=>J2 L.bp k.B k.ow k.pr hr.pl f (a%64) L.o b f2 f3 f4 O hj w hin)) I ?_;refine Vb ?_;refine Uu ?_;refine bI [dF L.bp (k.B.set (f*64+a%64) b) k.ow k.pr,jS L.bt L.bp L.o L.bf L.bg L.n,Xr L.bf L.n k.fr,gdC L.bg L.n k.gd,sc L (M.SD.set (a/64) true)] Zj (YG ?_);exact⟨I,_,hfin,I⟩
def cpy(d:Li)(o n k:Nat):List Int:=(List.range k).map (λj=>gB d (o+j))++R9 (n - k) 0
theorem FT(d:Li)(o n:Nat):cpy d o n 0=R9 n 0:=by simp[cpy]
theorem Mn(d:Li)(o:Nat){n k:Nat}(h:k<n):(cpy d o n k).set k (gB d (o+k))=cpy d o n (k+1):=by
 unfold cpy;rw[List.set_append_right _ _ cE,List.length_map,List.length_range,Nat.sub_self,show n - k=(n - (k+1))+1 by omega,List.replicate_succ,List.set_cons_zero,List.range_succ,List.map_append,aq]
 rfl
theorem Mo{o:Nat}(h:o+n<=J d):cpy d o n n=(d.drop o).take n:=by
 unfold cpy;rw[Nat.sub_self,List.replicate_zero,ax];apply List.ext_getElem?
 grind [sK]
def dY(tu:List Bool)(k:Nat):List Int:=((List.range k).filter (λf=>tu.getD f false)).map (λf:Nat=>(f:Int))
theorem nX(tu:List Bool)(k:Nat):dY tu (k+1)=dY tu k++(bif tu.getD k false then[(k:Int)]else[]):=by
 grind [dY,List.range_succ,Bool.false_eq_true]
theorem Ep(tu:List Bool)(k:Nat):J (dY tu k)<=k:=by
 grind [dY]
theorem Uy.init_eq{b:Li}(h:J b<=n*64):((Uy.new n).fill 0 b (J b)).calm=Uy.init n b:=by
 grind [Uy.calm,Uy.init,Bv,Uy.new]
theorem uh(L:ez)(M:Uy)(a:Nat)(ha:a<L.n*64)(b:Int)(hb:0<=b/\b<=255):CI prog 64 [.p L.bm,.w a,.int .u8 b] [eY L M] (λv cs=>v= .bool true/\cs=[eY L (M.put a b)]):=λw hi=>
 ctr_E hi λk hr hi'=>rput_in L M a ha b hb w k hr hi'
theorem ES(L:ez)(M:Uy)(a:Nat)(ha:a<L.n*64)(w:World)(h:(eY L M).ok w):CW prog 37 [.p L.bm,.w a] w (.tuple #[.int .u8 (gB M.data a),.bool true]):=by
 obtain⟨n1,n64,_⟩:=mQ h;refine UB func37 ntmps37 ?_;refine gX ?_;refine UD (λw hi=>wG L M a 1 O O w (bH.old h hi)) ?_;rw[ak (show a+1<=L.n*64 by omega)];refine kU ?_;refine UA ?_;refine UD (λw hi=>yc L M a ha w (bH.old h hi)) ?_;refine Uu ?_;exact kV
theorem tm(L:ez)(M:Uy)(a:Nat)(ha:a<=4294967295)(w:World)(h:(eY L M).ok w):CW prog 38 [.p L.bm,.w a] w (Cg L M a):=by
 obtain⟨n1,n64,hdl,hdb,htl⟩:=mQ h;refine UB func38 ntmps38 ?_;refine gX ?_;refine UD (λw hi=>wG L M a 4 ha O w (bH.old h hi)) ?_;refine Vs ?_ ?_<;>intro hc1
 .have hc:decide (a+4<=L.n*64)=false:=by simpa using hc1
  refine UG ?_;refine pd ?_;unfold Cg;rw[hc];exact ff
 have hc:decide (a+4<=L.n*64)=true:=by simpa using hc1
 have hle:a+4<=L.n*64:=of_decide_eq_true hc;refine jG ?_;refine UX (λi:Nat=>[(0,.p L.bm),(1,.w a),(6,.w (sy M.data a i)),(7,.w (4 - (i:Int)))]) (λ_=>[]) (λi=>i<=4) (λi=>4 - i) (0) O ?_;rintro i hik;refine Vl ?_ ?_<;>intro hc5
 .simp only[ah]at hc5;have hi4:i<4:=by omega
  have ha3:a+(3 - i)<L.n*64:=by omega
  refine UA ?_;refine Ik ?_;refine Us ?_;refine Zy (dr (Zv I) (Zv I) (u32_wrap_id _ O O)) ?_;refine Zy (eA (Zv I) (Zv I) (show V9 .u32 ((a:Int)+(4 - (i:Int)) - 1)=((a+(3 - i):Nat):Int) by rw[u32_wrap_id _ O O];omega)) ?_;refine UD (λw hi=>yc L M (a+(3 - i)) ha3 w (bH.old h hi)) ?_;have hg:=fF hdb (a+(3 - i));refine Zy (cA I I (Zv I) MT) ?_;refine Zy (xA ne ne (Gl hdb a hi4)) ?_;refine UA ?_;refine Zy (eA (Zv I) (Zv I) (u32_wrap_id _ O O)) ?_;refine py ?_;refine Vo (i+1) O
 simp only[aa]at hc5;obtain rfl:i=4:=by omega
 refine iR ?_;refine pd ?_;unfold Cg;rw[hc,Gm];exact ff
theorem ug(L:ez)(M:Uy)(a:Nat)(v:Int)(ha:a+4<=L.n*64)(hv:u32 v):CI prog 288 [.p L.bm,.w a,.w v] [eY L M] (λv' cs=>v'= .bool true/\cs=[eY L (M.Tm a v)]):=λw hi=>by
 obtain⟨n1,n64,hdl,hdb,htl⟩:=mQ (hi.ok _ (List.mem_cons_self ..));refine UH func288 ntmps288 hi ?_;refine eK ?_;refine UD (λw hi=>wG L M a 4 O O w (hi.get Zh)) ?_;rw[ak ha];refine kU ?_;refine jG ?_;refine UX (λk:Nat=>[(0,.p L.bm),(1,.w a),(2,.w v),(7,.bool true),(13,.w (k:Int))]) (λk=>[eY L (M.SY a v k)]) (λk=>k<=4) (λk=>4 - k) (0) O ?_;rintro k hk;refine Ul ?_ ?_<;>intro hc5
 .simp only[ah]at hc5;have hk4:k<4:=by omega
  refine jG ?_;refine Zy (dr (Zv I) (Zv I) (show V9 .u32 ((a:Int)+(k:Int))=((a+k:Nat):Int) by rw[u32_wrap_id _ O O];omega)) ?_;refine py ?_;refine Zy (fL ne ne I) ?_;refine Zy (jH (Zv I) (Zv I) (by rw[au];omega) rfl) ?_;refine Zy (cA I I ne (tN v hk4)) ?_;refine U5 ([eY L (M.SY a v k)]) (λw hi hin=>uh L (M.SY a v k) (a+k) O (mj v k) (ku v k) w hin) ?_;refine UG ?_;refine Zy (dr (Zv I) (Zv I) (u32_wrap_id _ O O)) ?_;refine py ?_;refine Vo (k+1) O
 simp only[aa]at hc5;obtain rfl:k=4:=by omega
 refine fo ?_;refine Vd ([VD _ _ _ _]) ?_;exact ff
theorem x0(L:ez)(M:Uy)(p:Nat)(hp:p<L.n)(w:World)(h:(eY L M).ok w):Uz prog 144 [.p L.bm,.i p] w [] (λv cs=>∃b,v= .tuple #[.slice (sA b) 64 64,.bool true]/\cs=[sl .u8 5 (sA b) 64 64 ((M.data.drop (p*64)).take 64)]):=by
 obtain⟨n1,n64,hdl,hdb,htl⟩:=mQ h;obtain⟨k0,hr0,h1,h2,h3,h4⟩:=qg h;refine UB func144 ntmps144 ?_;refine Wq221 ?_;refine Vb ?_;refine Ut ?_;refine cG I (Do) (Ut ?_);refine gJ (jT (bytes:=1) (n:=64) I I I I I I I O gI) I ?_;rintro _ _ ⟨b19,rfl,rfl⟩;rw[pm,<-FT M.data (p*64) 64];refine fo ?_;refine UX (λk:Nat=>[(0,.p L.bm),(1,.i p),(6,.slice (sA b19) 64 64),(21,.i 64),(22,.i (k:Int))]) (λk=>[sl .u8 5 (sA b19) 64 64 (cpy M.data (p*64) 64 k)]) (λk=>k<=64) (λk=>64 - k) (0) O ?_;rintro k hk;refine Ul ?_ ?_<;>intro hc5
 .simp only[ah]at hc5;have hpk:p*64+k<L.n*64:=by omega
  refine oQ ?_;refine Wq365 ?_;refine UD (λw hi=>yc L M (p*64+k) hpk w (bH.old h hi)) ?_;refine XM ?_;refine Uw ?_;rw[eh,Mn _ _ O];exact Wf
 simp only[aa]at hc5;obtain rfl:k=64:=by omega
 rw[Mo O];refine YJ ?_;exact⟨b19,I,I⟩
theorem Cz(L:ez)(M:Uy)(p:Nat)(hp:p<L.n)(A:Oa)(c:Nat)(l:Li)(hl:J l=64)(hb:UO l)(w:World)(hi:Inv w (bK [eY L M]) [eY L M] w)(hrd:∀w',cX (bK [eY L M]) w w'->Rd w' .u8 A 64 c l):
  Uz prog 357 [.p L.bm,.i p,.slice A 64 c] w [eY L M] (λv' cs=>v'= .bool true/\cs=[eY L (M.fill (p*64) l 64)]):=by
 obtain⟨n1,n64,hdl,hdb,htl⟩:=mQ (hi.ok _ (List.mem_cons_self ..));have hrw:=hrd w (cX.refl _ _);obtain⟨ad,rfl⟩:=hrw.some_ O;have hpg:∀w0 S cs w,Inv w0 S cs w->UQ cs (eY L M)->Uz prog 99 [.p L.bt] w [] (λv cs=>v= .i L.n/\cs=[]):=λw0 S cs w hi hc=>by
  obtain⟨k0,hr0,h1,h2,h3,h4⟩:=qg (hi.get hc);exact yq L.bt L.bp L.o L.bf L.bg L.n w h2
 have hcell:∀w,Inv w (bK [eY L M]) [eY L M] w->True:=λ_ _=>trivial
 refine UH func357 ntmps357 hi ?_;refine eK ?_;rw[ao (show¬(p:Int)<0 by omega)];refine Uu ?_;refine i5 (bU I I) (bL ir (cU I)) (λw hi=>by obtain⟨k0,hr0,h1,h2,h3,h4⟩:=qg (hi.get (Ur (eY L M)));exact cS (cs:=[]) h4 (show(fI L M.SD)[1]? =some (.p L.bt)from I) w (Inv.start w)) I (kt (bU I I) I (dQ I (λ_ _=>I) (λw hi=>hpg _ _ _ w hi Zh)) I ?_);refine Vb ?_;refine UE ?_;refine cG I (Do) (mU ?_);refine UX (λk:Nat=>[(0,.p L.bm),(1,.i p),(7,.bool true),(26,.slice (some ad) 64 c),(27,.i 64),(28,.i (k:Int))]) (λk=>[eY L (M.fill (p*64) l k)]) (λk=>k<=64) (λk=>64 - k) (0) O ?_;rintro k hk;refine Ul ?_ ?_<;>intro hc5
 .simp only[ah]at hc5;have hkl:k<J l:=by omega
  have hbk:=fF hb k;refine Ux ?_;refine BR ?_;refine dW (bL ir ne) (qa hrd (bX (sK hkl))) I (Ux ?_);refine Wq365 ?_;refine ZA ?_;refine U5 ([eY L (M.fill (p*64) l k)]) (λw hi hin=>uh L (M.fill (p*64) l k) (p*64+k) O (gB l k) hbk w hin) ?_;refine UG ?_;refine WR ?_;refine Vo (k+1) O
 simp only[aa]at hc5;obtain rfl:k=64:=by omega
 refine fo ?_;refine Vd ([VD _ _ _ _]) ?_;exact ff
theorem Oc(L:ez)(M:Uy)(A:Oa)(c:Nat)(l:Li)(hl:J l<=L.n*64)(hb:UO l)(w:World)(hi:Inv w (bK [eY L M]) [eY L M] w)(hrd:∀w',cX (bK [eY L M]) w w'->Rd w' .u8 A (J l) c l):
  Uz prog 115 [.p L.bm,.slice A (J l) c] w [eY L M] (λv' cs=>v'= .i 0/\cs=[eY L (M.fill 0 l (J l))]):=by
 obtain⟨n1,n64,hdl,hdb,htl⟩:=mQ (hi.ok _ (List.mem_cons_self ..));have hrw:=hrd w (cX.refl _ _);refine UH func115 ntmps115 hi ?_;refine gX ?_;refine UD (λw hi=>j4 L M w (hi.get Zh)) ?_;refine sO ?_;refine Us ?_;refine cG I ((ao O)) (gX ?_);refine UX (λk:Nat=>[(0,.p L.bm),(13,.slice A (J l) c),(14,.i (J l)),(15,.i (k:Int))]) (λk=>[eY L (M.fill 0 l k)]) (λk=>k<=J l) (λk=>J l - k) (0) O ?_;rintro k hk;refine Ul ?_ ?_<;>intro hc4
 .simp only[ah]at hc4;have hkl:k<J l:=by omega
  have hbk:=fF hb k;obtain⟨ad,rfl⟩:=hrw.some_ O;refine Ux ?_;refine BR ?_;refine dW (bL ir ne) (qa hrd (bX (sK hkl))) I (Ux ?_);refine Zy (cA I I (Zv I) (show V9 .u32 (k:Int)=((0+k:Nat):Int) by rw[u32_wrap_id _ O O];omega)) ?_;refine ZA ?_;refine U5 ([eY L (M.fill 0 l k)]) (λw hi hin=>uh L (M.fill 0 l k) (0+k) O (gB l k) hbk w hin) ?_;exact Wf
 simp only[aa]at hc4;obtain rfl:k=J l:=by omega
 refine gX ?_;refine Vd ([VD _ _ _ _]) ?_;exact ff
theorem J0(L:ez)(M:Uy)(w:World)(h:(eY L M).ok w):Uz prog 44 [.p L.bm] w [] (λv cs=>∃b,v= .slice (sA b) (J M.data) (J M.data)/\cs=[sl .u8 5 (sA b) (J M.data) (J M.data) M.data]):=by
 obtain⟨n1,n64,hdl,hdb,htl⟩:=mQ h;rw[hdl];refine UB func44 ntmps44 ?_;refine UG ?_;refine UD (λw hi=>j4 L M w (bH.old h hi)) ?_;refine gJ (jT (bytes:=1) (n:=L.n*64) I I I I I I I O gI) I ?_;rintro _ _ ⟨b7,rfl,rfl⟩;rw[pm,<-FT M.data 0 (L.n*64)];refine fo ?_;refine UX (λk:Nat=>[(0,.p L.bm),(3,.slice (sA b7) (L.n*64) (L.n*64)),(9,.i (L.n*64:Nat)),(10,.i (k:Int))]) (λk=>[sl .u8 5 (sA b7) (L.n*64) (L.n*64) (cpy M.data 0 (L.n*64) k)]) (λk=>k<=L.n*64) (λk=>L.n*64 - k) (0) O ?_;rintro k hk;refine Ul ?_ ?_<;>intro hc3
 .simp only[ah]at hc3;have hpk:0+k<L.n*64:=by omega
  refine oQ ?_;refine Zy (cA I I (Zv I) (show V9 .u32 (k:Int)=((0+k:Nat):Int) by rw[u32_wrap_id _ O O];omega)) ?_;refine UD (λw hi=>yc L M (0+k) hpk w (bH.old h hi)) ?_;refine XM ?_;refine Uw ?_;rw[eh,Mn _ _ O];exact Wf
 simp only[aa]at hc3;obtain rfl:k=L.n*64:=by omega
 rw[Mo O,List.drop_zero,List.take_of_length_le O];refine fo ?_;refine Vd ([slv _ _ _ _ _ _]) ?_;exact⟨b7,I,I⟩
theorem qS(L:ez)(M:Uy)(w:World)(h:(eY L M).ok w):Uz prog 73 [.p L.bm] w [] (λv cs=>∃A c,v= .slice A (J (dY M.SD 64)) c/\cs=[sl .i64 3 A (J (dY M.SD 64)) c (dY M.SD 64)]):=by
 obtain⟨n1,n64,hdl,hdb,htl⟩:=mQ h;obtain⟨k0,hr0,h1,h2,h3,h4⟩:=qg h;refine UB func73 ntmps73 ?_;refine mU ?_;refine dW (cj (vs:=lE M.SD) ir (λw=>by rw[nP,htl];rfl) (Zv rfl)) (oz (o:=2) h4 AR) rfl (dg 3 1 (Ut ?_));refine UX (λs:Nat×Option Addr×Nat=>[(0,.p L.bm),(3,.slice s.2.1 (J (dY M.SD s.1)) s.2.2),(9,.agg (lE M.SD).toArray),(10,.i (s.1:Int))]) (λs=>[sl .i64 3 s.2.1 (J (dY M.SD s.1)) s.2.2 (dY M.SD s.1)]) (λs=>s.1<=64) (λs=>64 - s.1) ((0,none,0)) O ?_;rintro⟨k,A1,c1⟩ hk;simp only at hk;dsimp only;refine Ul ?_ ?_<;>intro hc3
 .simp only[ah]at hc3;have hle:=Ep M.SD k;refine Ux ?_;refine Zy (Eb (j:=k) I ir ir (Zv I) (Zv I) Uq Uq (λ_=>Ib (show k<J M.SD by omega))) ?_;refine VM ?_ ?_<;>intro hc5
  .have he:dY M.SD (k+1)=dY M.SD k++[(k:Int)]:=by rw[nX,hc5];rfl
   refine Us ?_;refine jP ?_;rintro _ _ ⟨b17,rfl,rfl⟩;refine gJ (cu (e:=3) (sz:=1) (bytes:=8) I I Za I I (λw hi=>hi.rd Zh) (ka I) gI O) I ?_;rintro _ _ ⟨A2,c2,rfl,rfl⟩;rw[show(dY M.SD k).length+1=J (dY M.SD (k+1)) by grind,show ints .i64 (dY M.SD k)++[Value.i (k:Int)]=ints .i64 (dY M.SD (k+1)) by(rw[he];exact bY _ [_])];exact Xk
  have he:dY M.SD (k+1)=dY M.SD k:=by(rw[nX,hc5];simp)
  exact Ys
 simp only[aa]at hc3;obtain rfl:k=64:=by omega
 refine fo ?_;exact IN
theorem ER(L:ez)(M:Uy):CI prog 133 [.p L.bm] [eY L M] (λv cs=>v= .tuple #[]/\cs=[eY L M.calm]):=λw hi=>by
 refine ctr_E hi λk hr hi'=>?_
 have htl:=hr.tl;refine wZ func133 I ntmps133 I hi' ?_;unfold zi;refine py ?_;refine Zy (gY (vs:=R9 64 (Value.bool false)) Zk (.inr ⟨_,_,_,I,λ_=>I⟩)) ?_;refine py ?_;refine et (fN (n:=64) ir I I (λu hu=>by rw[List.eq_of_mem_replicate hu];rfl) Za (aB) (by rw[nz htl,aB];omega)) ?_;refine Uw ?_;rw[aB,yz htl];refine Zn (gK (cs':=[row _ _ _,row _ _ _,slv _ _ _ _ _ _,slv _ _ _ _ _ _,row _ _ _]) (.inr I) Zu I ?_);exact⟨I,k,hr.calm,I⟩
end
end Go.Ink
