/- Lemmas. -/
import Derived.Test.YtepfimeihngjoaaGreatDoorXae
import Derived.Test.YtepfimeihngjoaaGreatDoorXaf
set_option linter.all false
set_option maxRecDepth 100000
set_option maxHeartbeats 4000000
namespace Go.Ink
open List renaming length→J, replicate→R9
open IntKind renaming wrap→V9
open Go.RowKit Go.Proofs.Tryz
variable{j:Nat}{b:Bool}
section
attribute [local irreducible] Ve bN
theorem Pa(bp:Nat)(B ow pr:Li)(hl:eV B ow pr)(f a:Nat)(o b:Int)(h1:16<=f)(h2:f<256)(h3:ow[f]? =some o)(h4:o≠ -1)(h5:a<64)(h6:B[f*64+a]? =some b)(w:World)(hp:(ft bp B ow pr).ok w):
  CW prog 152 [.p bp,.i f,.i a] w (.tuple #[.int .u8 b,.bool true]):=by
 refine UV func152 ntmps152 ?_;refine fR ?_;refine UZ (λw hi=>Mb bp B ow pr hl f a o h1 h2 h3 h4 h5 w (bJ.old hp hi)) ?_;refine rZ ?_;refine U8 ?_;refine Wq428 ?_;refine dZ (bO ir py) (cW hp (pool_B h6)) I (UQ ?_);exact oW
theorem KG(bp:Nat)(B ow pr:Li)(hl:eV B ow pr)(f a:Nat)(o b:Int)(h1:16<=f)(h2:f<256)(h3:ow[f]? =some o)(h4:o≠ -1)(h5:a<64):CI prog 111 [.p bp,.i f,.i a,.int .u8 b] [ft bp B ow pr] (λv cs=>v= .bool true/\cs=[ft bp (B.set (f*64+a) b) ow pr]):=λw hi=>by
 have hb:=hl.b;refine Vb func111 ntmps111 hi ?_;refine gP ?_;refine UZ (λw hi=>Mb bp B ow pr hl f a o h1 h2 h3 h4 h5 w (hi.get Zh)) ?_;refine rZ ?_;refine eL ?_;refine Wq428 ?_;refine eA (jB ir I I I Za (by rw[gV hl];omega)) ?_;refine UR ?_;rw[KO O];refine Va ?_;exact Ew
theorem held_ok(bp:Nat)(B ow pr:Li)(hl:eV B ow pr)(o:Nat)(ho:o<4)(w:World)(hp:(ft bp B ow pr).ok w):
  UW prog 49 [.p bp,.i o] w [] (λv cs=>∃A c,v= .slice A (J (fP ow o 256)) c/\cs=[sl .i64 3 A (J (fP ow o 256)) c (fP ow o 256)]):=by
 refine UV func49 ntmps49 ?_;refine kF ?_;refine υ ?_;refine UN ?_;refine j6 ?_;refine dB 3 1 (UK ?_);refine Vs (λs:Nat×Option Addr×Nat=>[(0,.p bp),(1,.i o),(5,.slice s.2.1 (J (fP ow o s.1)) s.2.2),(11,.i s.1)]) (λs=>[sl .i64 3 s.2.1 (J (fP ow o s.1)) s.2.2 (fP ow o s.1)]) (λs=>s.1<=256) (λs=>256 - s.1) ((0,none,0)) O ?_;rintro⟨k,A1,c1⟩ hk;simp only at hk;dsimp only;refine UH ?_ ?_<;>intro hc5
 .simp only[ai]at hc5;have hkl:k<J ow:=by(rw[hl.ow];omega)
  have hok:ow[k]? =some (ow[k]'hkl):=ak hkl;have hle:=Mc ow o k;refine nW ?_;refine XR 16384 ?_;refine Zy (dj (j:=k) (sz:=1) (r:=16384+k) I ir (Zv I) (Zv I) UL UL O) ?_;refine dZ (bO ir py) (cW hp (ze hl hok)) I (WK ?_ ?_)<;>intro hc7
  .have he:fP ow o (k+1)=fP ow o k++[(k:Int)]:=by(rw[vy,hok];grind)
   refine UN ?_;refine jQ ?_;rintro _ _ ⟨b24,rfl,rfl⟩;refine gS (cC (e:=3) (sz:=1) (bytes:=8) I I Za I I (λw hi=>hi.rd Zh) (jR I) gD O) I ?_;rintro _ _ ⟨A2,c2,rfl,rfl⟩;rw[show(fP ow o k).length+1=J (fP ow o (k+1)) by grind,show ints .i64 (fP ow o k)++[Value.i (k:Int)]=ints .i64 (fP ow o (k+1)) by(rw[he];exact cy _ [_])];refine j5 ?_;refine VM ((k+1,A2,c2)) O
  have he:fP ow o (k+1)=fP ow o k:=by(rw[vy,hok,show(some (ow[k]'hkl)==some (o:Int))=false from hc7];simp)
  rw[<-he];refine ii ?_;refine VM ((k+1,A1,c1)) O
 simp only[aa]at hc5;obtain rfl:k=256:=by omega
 refine fR ?_;exact Nq
theorem take_ok(bp:Nat)(B ow pr:Li)(hl:eV B ow pr)(o:Nat)(ho:o<4)(n:Int)(hn:pr[o]? =some n)(hlt:(J (fP ow o 256):Int)<n)(f0:Nat)(h16:16<=f0)(h256:f0<256)(hf0:ow[f0]? =some (-1)):CI prog 156 [.p bp,.i o] [ft bp B ow pr] (λv cs=>∃f:Nat,16<=f/\f<256/\ow[f]? =some (-1)/\v= .tuple #[.i f,.i 0]/\cs=[ft bp (eW B f) (ow.set f o) pr]):=λw hi=>by
 have hb:=hl.b;have how:=hl.ow;refine Vb func156 ntmps156 hi ?_;refine gP ?_;refine υ ?_;refine UK ?_;refine lN ?_;refine Zs (bQ (Vg []) Zk ?_);refine lO ?_;refine ZE 4 ?_;refine qM ?_;refine UE 7 16640 ?_;refine UY 8 I (dj (j:=o) (sz:=1) (r:=16640+o) I ir (Zv I) (Zv I) (λ_=>by omega) (λ_=>by omega) (by omega)) ?_;refine Vn 9 I (bO ir py) (cT Zh (KP hl hn)) ?_;refine cP 2 Zk (V1 (λw hi=>held_ok bp B ow pr hl o ho w (hi.get Zh)) ?_);rintro _ _ ⟨A1,c1,rfl,rfl⟩;refine ZE 3 ?_;refine ZE 10 ?_;refine ZE 11 ?_;refine fh ?_;refine Zt (cK I ((ao (by omega))) ?_);refine eL ?_;refine Vs (λk:Nat=>[(0,.p bp),(1,.i o),(6,.i (k:Int))]) (λ_=>[ft bp B ow pr]) (λk=>16<=k/\k<=f0) (λk=>f0 - k) (16) (by omega) ?_;rintro k ⟨hk1,hk2⟩;refine VJ ?_ ?_<;>intro hc6
 .have hkl:k<J ow:=by omega
  have hok:ow[k]? =some (ow[k]'hkl):=ak hkl;refine U8 ?_;refine XR 16384 ?_;refine Zy (dj (j:=k) (sz:=1) (r:=16384+k) I ir (Zv I) (Zv I) (λ_=>by omega) (λ_=>by omega) (by omega)) ?_;refine dZ (bO ir py) (cT Zh (ze hl hok)) I (VP ?_ ?_)<;>intro hc8
  .have h2:ow[k]'hkl= -1:=bZ;rw[h2]at hok;refine UU ?_;refine XR 16384 ?_;refine Zy (dj (j:=k) (sz:=1) (r:=16384+k) I ir (Zv I) (Zv I) (λ_=>by omega) (λ_=>by omega) (by omega)) ?_;refine eA (jB ir I I I Za (by rw[gV hl];omega)) ?_;refine UR ?_;rw[xC hl (show k<256 by omega)];have hl':eV B (ow.set k o) pr:=⟨hl.b,by grind,hl.pr⟩;refine UU ?_;refine Zy (ip (vs:=R9 64 (Value.int .u8 0)) Zk (.inr ⟨_,_,_,I,λ_=>I⟩)) ?_;refine An ?_;refine Zy (dj (j:=k) (sz:=64) (r:=k*64) I ir (Zv I) (Zv I) (λ_=>by omega) (λ_=>by omega) (by omega)) ?_;refine eA (gb (n:=64) ir I I (λu hu=>by rw[List.eq_of_mem_replicate hu];rfl) Za (az) (by rw[gV hl',az];omega)) ?_;refine UR ?_;rw[az,KN hl' (show k<256 by omega)];refine nW ?_;exact wB (cs':=[row _ _ _]) (.inl I) Zu I I I ⟨k,hk1,by omega,hok,rfl,rfl⟩
  have h2:ow[k]'hkl≠ -1:=bZ;have hne:k≠f0:=by(grind)
  refine j5 ?_;refine VM (k+1) (by omega)
 grind
variable{n k:Nat}
abbrev gdC(bg n:Nat)(gd:List Bool):bJ:=slv 4 1 (sA bg) n n (lH gd)
def UO.put(M:UO)(a:Nat)(b:Int):UO:=⟨M.data.set a b,M.SX.set (a/64) true⟩
section
variable{L:fF}{M:UO}{k:SN}
theorem eT.putF(h:eT L M k){p j f:Nat}{b:Int}(hj:j<64)(hb:0<=b/\b<=255)(hf:k.fr[p]? =some (f:Int)):eT L (M.put (p*64+j) b) {k with B:=k.B.set (f*64+j) b}:=by
 have hpl:p<L.n:=by have:=(aC.1 hf).1;rw[h.fr]at this;exact this
 have hBl:=h.pl.b;have hf256:f<256:=by
  rcases h.Tc p hpl with⟨h1,_⟩|⟨f',h1,h2,h3,_⟩
  .grind
  grind
 refine⟨⟨by grind,h.pl.ow,h.pl.pr⟩,h.o4,h.n1,h.n64,h.fr,h.gd,by show(M.data.set _ _).length=_;grind [h.dl],by show(M.SX.set _ _).length=_;grind [h.tl],?_,?_,h.inj,?_,h.prom,h.prs,h.cap⟩
 .intro x hx;rcases List.mem_or_eq_of_mem_set hx with h1|h1
  .exact h.db x h1
  omega
 .intro q hq;show(k.fr[q]? =some (-1)/\∀i,i<64->(M.data.set (p*64+j) b)[q*64+i]? =some 0)\/(∃g:Nat,k.fr[q]? =some (g:Int)/\16<=g/\g<256/\k.ow[g]? =some (L.o:Int)/\∀i,i<64->(k.B.set (f*64+j) b)[g*64+i]? =(M.data.set (p*64+j) b)[q*64+i]?);rcases h.Tc q hq with⟨h1,h2⟩|⟨g,h1,h2,h3,h4,h5⟩
  .grind
  right;refine⟨g,h1,h2,h3,h4,λi hi=>?_⟩;by_cases hqp:q=p
  .grind
  have hgf:g≠f:=by
   rintro rfl;exact hqp (h.inj q p g h1 hf)
  grind
 intro g hg;show _\/_\/(_/\_/\∀i,i<64->(k.B.set (f*64+j) b)[g*64+i]? =_);rcases h.held g hg with h1|h1|⟨h1,h2,h3⟩
 .grind
 .grind
 refine .inr (.inr ⟨h1,h2,λi hi=>?_⟩);have hgf:g≠f:=by
  rintro rfl;rcases h.Tc p hpl with⟨h4,_⟩|⟨f',h4,_,_,h5,_⟩
  .grind
  grind [fF.oth]
 grind
theorem eT.map(h:eT L M k){p f:Nat}(hp:p<L.n)(hf:k.fr[p]? =some (-1))(h16:16<=f)(h256:f<256)(hw:k.ow[f]? =some (-1)):eT L M {k with B:=eW k.B f,ow:=k.ow.set f L.o,fr:=k.fr.set p f}:=by
 have hBl:=h.pl.b;have howl:=h.pl.ow;have hfl:=h.fr;have hnof:∀q:Nat,k.fr[q]? ≠some (f:Int):=λq hq=>by
  have hql:q<L.n:=by have:=(aC.1 hq).1;rw[h.fr]at this;exact this
  rcases h.Tc q hql with⟨h1,_⟩|⟨g,h1,_,_,h4,_⟩
  .grind
  grind
 have hz:∀j,j<64->M.data[p*64+j]? =some 0:=by
  rcases h.Tc p hp with⟨_,h2⟩|⟨g,h1,_⟩
  .exact h2
  grind
 refine⟨⟨yk hBl h256,by grind,h.pl.pr⟩,h.o4,h.n1,h.n64,by grind,h.gd,h.dl,h.tl,h.db,?_,?_,?_,h.prom,h.prs,h.cap⟩
 .intro q hq;show((k.fr.set p (f:Int))[q]? =some (-1)/\∀i,i<64->M.data[q*64+i]? =some 0)\/(∃g:Nat,(k.fr.set p (f:Int))[q]? =some (g:Int)/\16<=g/\g<256/\(k.ow.set f (L.o:Int))[g]? =some (L.o:Int)/\∀i,i<64->(eW k.B f)[g*64+i]? =M.data[q*64+i]?);by_cases hqp:q=p
  .grind [Au]
  rw[List.getElem?_set_ne O];rcases h.Tc q hq with h1|⟨g,h1,h2,h3,h4,h5⟩
  .grind
  grind [pV]
 .intro a b g ha hb;show a=b
  change (k.fr.set p (f:Int))[a]? =_ at ha
  change (k.fr.set p (f:Int))[b]? =_ at hb
  by_cases hap:a=p
  .grind
  by_cases hbp:b=p
  .grind
  rw[List.getElem?_set_ne O]at ha hb;exact h.inj a b g ha hb
 intro g hg;show(_/\(k.ow.set f (L.o:Int))[g]? =some (-1))\/(_/\(k.ow.set f (L.o:Int))[g]? =some (L.o:Int)/\∃q:Nat,(k.fr.set p (f:Int))[q]? =some (g:Int))\/(_/\(k.ow.set f (L.o:Int))[g]? =_/\∀i,i<64->(eW k.B f)[g*64+i]? =_);have hhe:=h.held g hg;by_cases hgf:g=f
 .subst hgf;right;left;refine⟨?_,by grind,p,by grind⟩
  grind [fF.oth]
 rw[List.getElem?_set_ne O];rcases hhe with h1|⟨h0,h1,q,hq⟩|⟨h1,h2,h3⟩
 .grind
 .right;left;refine⟨h0,h1,q,?_⟩
  grind
 grind [pV]
theorem eT.put0(h:eT L M k){p j:Nat}(hj:j<64)(hp:p<L.n)(hf:k.fr[p]? =some (-1)):eT L (M.put (p*64+j) 0) k:=by
 have hz:M.data[p*64+j]? =some 0:=by
  rcases h.Tc p hp with⟨_,h2⟩|⟨g,h1,_⟩
  .grind
  grind
 have e:M.data.set (p*64+j) 0=M.data:=by
  apply List.ext_getElem?;intro i;rw[List.getElem?_set];split
  .grind
  rfl
 unfold UO.put;rw[e];exact⟨h.pl,h.o4,h.n1,h.n64,h.fr,h.gd,h.dl,by grind [h.tl],h.db,h.Tc,h.inj,h.held,h.prom,h.prs,h.cap⟩
end
variable{L:fF}
def fC(L:fF)(tu:List Bool):List Value:= .p L.bp:: .p L.bt::(lH tu++[.bool false])
abbrev BI(L:fF)(tu:List Bool):bJ:=row L.bm (fC L tu) 189
variable{tu:List Bool}
theorem vd(h:J tu=64):(fC L tu)[66]? =some (.bool false):=by
 grind [fC,mq]
theorem sF(h:J tu=64):J (fC L tu)=67:=by simp[fC,mq,h]
theorem nG(hj:j<J tu)(b:Bool):(fC L tu).set (2+j) (.bool b)=fC L (tu.set j b):=by
 grind [fC,mq,wh]
def Ib(L:fF)(tu:List Bool)(k:SN):List bJ:=[ft L.bp k.B k.ow k.pr,lU L.bt L.bp L.o L.bf L.bg L.n,YD L.bf L.n k.fr,gdC L.bg L.n k.gd,BI L tu]
abbrev fM(L:fF)(M:UO):bJ:=Wg [L.bp,L.bt,L.bf,L.bg,L.bm] (Ib L M.SX) ir (eT L M)
theorem qp{M:UO}{w:World}(h:(fM L M).ok w):∃k,eT L M k/\(ft L.bp k.B k.ow k.pr).ok w/\(lU L.bt L.bp L.o L.bf L.bg L.n).ok w/\(YD L.bf L.n k.fr).ok w/\(BI L M.SX).ok w:=by
 obtain⟨k,h1,h2⟩:=exC_ok h;exact⟨k,h1,h2 _ (.head _ _),h2 _ (.tail _ (.head _ _)),h2 _ (.tail _ (.tail _ (.head _ _))),h2 _ (.tail _ (.tail _ (.tail _ (.tail _ (.head _ _)))))⟩
theorem zh(bt bp o bf bg n:Nat)(w:World)(h:(lU bt bp o bf bg n).ok w):CW prog 99 [.p bt] w (.i n):=by
 refine UV func99 ntmps99 ?_;refine ww ?_;exact qP
theorem RW(bt bp o bf bg n p:Nat)(w:World)(h:(lU bt bp o bf bg n).ok w):CW prog 155 [.p bt,.i p] w (.bool (decide (p<n))):=by
 refine UV func155 ntmps155 ?_;refine kF ?_;refine iX (bS I I) (bO ir (cO I)) (cW gQ I) I (wv ?_);rw[ap (show(0:Int)<=p by omega),show decide ((p:Int)<n)=decide (p<n)from decide_eq_decide.2 O];exact fx
theorem np(bt bp o bf bg n p:Nat)(fr:Li)(f:Int)(hp:p<n)(hf:fr[p]? =some f)(w:World)(h:(lU bt bp o bf bg n).ok w)(h2:(YD bf n fr).ok w):
  CW prog 109 [.p bt,.i p] w (vL f):=by
 have hrd:=eO h2;refine UV func109 ntmps109 ?_;refine gP ?_;refine UZ (λw hi=>RW bt bp o bf bg n p w (bJ.old h hi)) ?_;rw[ap hp];refine UQ ?_;refine iX (bR I I) (bO ir (cO I)) (cW gQ I) I (ZB ?_);refine WV I I (cZ (j:=p) I ir (cO I) (cO I) UL UL) ?_;refine iX (bR I I) (bO ir (cO I)) (dK hrd (cw hf)) I (WK ?_ ?_)<;>intro hc1
 .have hc:(f== -1)=true:=hc1;simp only[vL,hc,ah];refine Va ?_;exact oW
 have hc:(f== -1)=false:=hc1;simp only[vL,hc,ac];refine US ?_;refine I1 ?_;refine ZA ?_;refine Zy (cZ (j:=p) I ir (Zv I) (Zv I) UL UL) ?_;refine dZ (bO ir py) (dK hrd (cw hf)) I (UQ ?_);exact oW
theorem tmap_ok(bt bp o bf bg n p:Nat)(B ow pr fr:Li)(hl:eV B ow pr)(ho:o<4)(hn:pr[o]? =some (n:Int))(hlt:J (fP ow o 256)<n)(f0:Nat)(h16:16<=f0)(h256:f0<256)(hf0:ow[f0]? =some (-1))(hp:p<n)(hf:fr[p]? =some (-1)):CI prog 110 [.p bt,.i p] [lU bt bp o bf bg n,YD bf n fr,ft bp B ow pr] (λv cs=>∃f:Nat,16<=f/\f<256/\ow[f]? =some (-1)/\v= .tuple #[.i f,.i 0]/\cs=[ft bp (eW B f) (ow.set f o) pr,lU bt bp o bf bg n,YD bf n (fr.set p f)]):=λw hi=>by
 refine Vb func110 ntmps110 hi ?_;refine gP ?_;refine UZ (λw hi=>RW bt bp o bf bg n p w (hi.get Zh)) ?_;rw[ap hp];refine rZ ?_;refine US ?_;refine UZ (λw hi=>np bt bp o bf bg n p fr (-1) hp hf w (hi.get Zh) (hi.get Zh)) ?_;refine fR ?_;refine lN ?_;refine UN ?_;refine bQ (Vg [8]) Zk (nZ ?_);refine wP ?_;refine UE 6 1 ?_;refine ZG 7 ?_;refine gg ?_;refine rX ([ft bp B ow pr]) (λw hi hin=>take_ok bp B ow pr hl o ho n hn O f0 h16 h256 hf0 w hin) ?_;rintro _ _ ⟨f,hf1,hf2,hf3,rfl,rfl⟩;refine qS ?_;refine r8 ?_;refine fh ?_;refine Va ?_;refine iS ?_;refine US ?_;refine Zy (cn (j:=p) (sz:=1) (r:=p) I ir (Zv I) (Zv I) UL UL O) ?_;refine z4 ?_;refine UR ?_;rw[eK];refine gP ?_;exact wB (cs':=[row _ _ _,row _ _ _,slv _ _ _ _ _ _]) (.inl I) Zu I I I ⟨f,hf1,hf2,hf3,I,I⟩
variable{d:Li}{a:Nat}
def UO.Tj(M:UO)(a:Nat)(v:Int):Nat->UO
 |0=>M
 |k+1=>(UO.Tj M a v k).put (a+k) (mC v k)
def UO.TB(M:UO)(a:Nat)(v:Int):UO:=M.Tj a v 4
def UO.fill(M:UO)(a:Nat)(l:Li):Nat->UO
 |0=>M
 |k+1=>(UO.fill M a l k).put (a+k) (gB l k)
theorem mI(L:fF)(M:UO)(w:World)(h:(fM L M).ok w):CW prog 36 [.p L.bm] w (.w (L.n*64:Nat)):=by
 obtain⟨k,hr,h1,h2,h3,h4⟩:=qp h;have n64:=hr.n64;refine UV func36 ntmps36 ?_;refine ww ?_;refine UZ (λw hi=>zh L.bt L.bp L.o L.bf L.bg L.n w (bJ.old h2 hi)) ?_;refine mU ?_;refine Zy (fT (Zv I) (Zv I) (show V9 .u32 ((V9 .u32 (L.n:Int))*64)=((L.n*64:Nat):Int) by rw[u32_wrap_id (L.n:Int) O O,u32_wrap_id _ O O];omega)) ?_;exact mZ
theorem yD(a:Nat)(ha:a<=4294967295)(w:World):CW prog 108 [.w a] w (.tuple #[.i (a/64:Nat),.i (a%64:Nat)]):=by
 refine UV func108 ntmps108 ?_;refine U8 ?_;refine Β ?_;refine wo ?_;refine ZA ?_;refine Zy (fG (Zv I) (Zv I) O (show _=((a%64:Nat):Int)from by grind)) ?_;refine wo ?_;refine UQ ?_;exact oW
theorem Fk(L:fF)(M:UO)(a n:Nat)(ha:a<=4294967295)(hn:n<=1000)(w:World)(h:(fM L M).ok w):CW prog 100 [.p L.bm,.w a,.i n] w (.bool (decide (a+n<=L.n*64))):=by
 obtain⟨k,hr,_⟩:=qp h;have n64:=hr.n64;refine UV func100 ntmps100 ?_;refine Va ?_;refine pQ ?_;refine ZA ?_;refine pQ ?_;refine Zy (dy (Zv I) (Zv I) (IntWalk.u64_in _ ⟨by omega,by omega⟩)) ?_;refine ZA ?_;refine UZ (λw hi=>mI L M w (bJ.old h hi)) ?_;refine pQ ?_;refine UQ ?_;refine Wl ?_;rw[show decide ((a:Int)+n<=((L.n*64:Nat):Int))=decide (a+n<=L.n*64)from decide_eq_decide.2 O];exact fx
theorem yU(L:fF)(M:UO)(a:Nat)(ha:a<L.n*64)(w:World)(h:(fM L M).ok w):CW prog 101 [.p L.bm,.w a] w (.int .u8 (gB M.data a)):=by
 obtain⟨k,hr,h1,h2,h3,h4⟩:=qp h;have n64:=hr.n64;have hp:a/64<L.n:=by omega
 have hj:a%64<64:=by omega
 have hdl:=hr.dl;have hda:M.data[a/64*64+a%64]? =some (gB M.data a):=by rw[show a/64*64+a%64=a by omega];exact tf O
 rcases hr.Tc (a/64) hp with⟨f1,f2⟩|⟨f,f1,f2,f3,f4,f5⟩
 .have hz:gB M.data a=0:=by have:=f2 (a%64) hj;rw[hda]at this;exact aF this
  rw[hz];refine UV func101 ntmps101 ?_;refine Va ?_;refine UZ (λw hi=>yD a O w) ?_;refine fR ?_;refine I1 ?_;refine ZA ?_;refine UZ (λw hi=>np L.bt L.bp L.o L.bf L.bg L.n (a/64) k.fr (-1) hp f1 w (bJ.old h2 hi) (bJ.old h3 hi)) ?_;refine kF ?_;refine iS ?_;refine US ?_;exact wQ
 have hb:k.B[f*64+a%64]? =some (gB M.data a):=by rw[f5 _ hj,hda]
 refine UV func101 ntmps101 ?_;refine Va ?_;refine UZ (λw hi=>yD a O w) ?_;refine fR ?_;refine I1 ?_;refine ZA ?_;refine UZ (λw hi=>np L.bt L.bp L.o L.bf L.bg L.n (a/64) k.fr f hp f1 w (bJ.old h2 hi) (bJ.old h3 hi)) ?_;rw[vK];refine r7 ?_;refine US ?_;refine I1 ?_;refine An ?_;refine UZ (λw hi=>Pa L.bp k.B k.ow k.pr hr.pl f (a%64) L.o _ f2 f3 f4 O hj hb w (bJ.old h1 hi)) ?_;refine kF ?_;exact wQ
theorem rput_in(L:fF)(M:UO)(a:Nat)(ha:a<L.n*64)(b:Int)(hb:0<=b/\b<=255)(w:World)(k:SN)(hr:eT L M k)(hi:Inv w (bM (Ib L M.SX k)) (Ib L M.SX k) w):
  UW prog 64 [.p L.bm,.w a,.int .u8 b] w (Ib L M.SX k) (λv cs=>v= .bool true/\∃k',eT L (M.put a b) k'/\cs=Ib L (M.put a b).SX k'):=by
 have n64:=hr.n64;have o4:=hr.o4;have hp:a/64<L.n:=by omega
 have hj:a%64<64:=by omega
 have hdl:=hr.dl;have htl:=hr.tl;have ea:a/64*64+a%64=a:=by omega
 obtain⟨hb0,hb1⟩:=hb;have his:∀w0 S w,Inv w0 S (Ib L M.SX k) w->(fM L M).ok w:=λw0 S w hi=>(hi.TK (rest:=[]) (bs:=[L.bp,L.bt,L.bf,L.bg,L.bm]) (F:=Ib L M.SX) (hb:=λ_=>I) (p:=eT L M) k hr).ok _ (bn ..)
 rcases hr.Tc (a/64) hp with⟨f1,f2⟩|⟨f,f1,f2,f3,f4,f5⟩
 .by_cases hb0':b=0
  .subst hb0';have hfin:=hr.put0 hj hp f1;rw[ea]at hfin;refine Vb func64 ntmps64 hi ?_;unfold Ib at his|-;refine Wq439 ?_;refine lN ?_;refine Va ?_;refine Τ ?_;refine UR ?_;rw[nG O];refine kF ?_;refine jV (bR I I) I I (Zy (N4 (q:=false) (Zv I) ⟨_,I,λ_ e=>by simp at e⟩) ?_);refine UK ?_;refine Zg ?_;exact⟨I,k,hfin,I⟩
  obtain⟨f0,g1,g2,g3⟩:=hr.free f1;refine Vb func64 ntmps64 hi ?_;unfold Ib at his|-;refine Wq439 ?_;refine bY I (bZ) (eL ?_);refine XR 66 ?_;refine dZ (bO ir py) (cT (o:=66) Zh (vd htl)) I (An ?_);refine lN ?_;refine eL ?_;refine dH ([lU L.bt L.bp L.o L.bf L.bg L.n,YD L.bf L.n k.fr,ft L.bp k.B k.ow k.pr]) (λw hi hin=>tmap_ok L.bt L.bp L.o L.bf L.bg L.n (a/64) k.B k.ow k.pr k.fr hr.pl o4 hr.prom (hr.heldLt f1) f0 g1 g2 g3 hp f1 w hin) ?_;rintro _ _ ⟨f,m1,m2,m3,rfl,rfl⟩;have hmap:=hr.map hp f1 m1 m2 m3;have hfin:=hmap.putF (j:=a%64) (b:=b) (f:=f) hj ⟨hb0,hb1⟩ (show(k.fr.set (a/64) (f:Int))[a/64]? =_ by grind);rw[ea]at hfin;have hpl':=hmap.pl;refine mv ?_;refine lN ?_;refine fR ?_;refine Τ ?_;refine UR ?_;rw[nG O];refine kF ?_;refine gm (bR I I) I (dh ([ft L.bp (eW k.B f) (k.ow.set f L.o) k.pr]) I (λ_ _=>I) Zi (λw hi hin=>KG L.bp (eW k.B f) (k.ow.set f L.o) k.pr hpl' f (a%64) L.o b m1 m2 (show(k.ow.set f (L.o:Int))[f]? =some (L.o:Int) by grind) O hj w hin)) rfl ?_;refine Vz ?_;refine UQ ?_;refine bK [ft L.bp ((eW k.B f).set (f*64+a%64) b) (k.ow.set f L.o) k.pr,lU L.bt L.bp L.o L.bf L.bg L.n,YD L.bf L.n (k.fr.set (a/64) f),gdC L.bg L.n k.gd,BI L (M.SX.set (a/64) true)] Zj (Zg ?_);exact⟨I,_,hfin,I⟩
 have hfin:=hr.putF (j:=a%64) (b:=b) hj ⟨hb0,hb1⟩ f1;rw[ea]at hfin;refine Vb func64 ntmps64 hi ?_;unfold Ib at his|-;refine eL ?_;refine Wq196 ?_;refine kF ?_;refine UZ (λw hi=>np L.bt L.bp L.o L.bf L.bg L.n (a/64) k.fr f hp f1 w (hi.get Zh) (hi.get Zh)) ?_;rw[vK];refine wn ?_;refine lN ?_;refine Va ?_;refine Τ ?_;refine UR ?_;rw[nG O];refine kF ?_;refine gm (bR I I) I (dh ([ft L.bp k.B k.ow k.pr]) I (λ_ _=>I) Zi (λw hi hin=>KG L.bp k.B k.ow k.pr hr.pl f (a%64) L.o b f2 f3 f4 O hj w hin)) I ?_;refine Vz ?_;refine UQ ?_;refine bK [ft L.bp (k.B.set (f*64+a%64) b) k.ow k.pr,lU L.bt L.bp L.o L.bf L.bg L.n,YD L.bf L.n k.fr,gdC L.bg L.n k.gd,BI L (M.SX.set (a/64) true)] Zj (Zg ?_);exact⟨I,_,hfin,I⟩
def cpy(d:Li)(o n k:Nat):List Int:=(List.range k).map (λj=>gB d (o+j))++R9 (n - k) 0
theorem Gi(d:Li)(o n:Nat):cpy d o n 0=R9 n 0:=by simp[cpy]
theorem MU(d:Li)(o:Nat){n k:Nat}(h:k<n):(cpy d o n k).set k (gB d (o+k))=cpy d o n (k+1):=by
 unfold cpy;rw[List.set_append_right _ _ cJ,List.length_map,List.length_range,Nat.sub_self,show n - k=(n - (k+1))+1 by omega,List.replicate_succ,List.set_cons_zero,List.range_succ,List.map_append,aw]
 rfl
theorem MV{o:Nat}(h:o+n<=J d):cpy d o n n=(d.drop o).take n:=by
 unfold cpy;rw[Nat.sub_self,List.replicate_zero,aD];apply List.ext_getElem?
 grind [tf]
theorem ro(L:fF)(M:UO)(a:Nat)(ha:a<L.n*64)(b:Int)(hb:0<=b/\b<=255):CI prog 64 [.p L.bm,.w a,.int .u8 b] [fM L M] (λv cs=>v= .bool true/\cs=[fM L (M.put a b)]):=λw hi=>
 ctr_E hi λk hr hi'=>rput_in L M a ha b hb w k hr hi'
theorem mY{M:UO}{w:World}(h:(fM L M).ok w):1<=L.n/\L.n<=64/\J M.data=L.n*64/\Vh M.data/\J M.SX=64:=by
 obtain⟨k,hr,_⟩:=qp h;exact⟨hr.n1,hr.n64,hr.dl,hr.db,hr.tl⟩
theorem O0(L:fF)(M:UO)(a:Nat)(ha:a<L.n*64)(w:World)(h:(fM L M).ok w):CW prog 37 [.p L.bm,.w a] w (.tuple #[.int .u8 (gB M.data a),.bool true]):=by
 obtain⟨n1,n64,_⟩:=mY h;refine UV func37 ntmps37 ?_;refine gP ?_;refine UZ (λw hi=>Fk L M a 1 O O w (bJ.old h hi)) ?_;rw[ap (show a+1<=L.n*64 by omega)];refine rZ ?_;refine UU ?_;refine UZ (λw hi=>yU L M a ha w (bJ.old h hi)) ?_;refine UQ ?_;exact oW
theorem yN(L:fF)(M:UO)(a:Nat)(ha:a<=4294967295)(w:World)(h:(fM L M).ok w):CW prog 38 [.p L.bm,.w a] w (CY L M a):=by
 obtain⟨n1,n64,hdl,hdb,htl⟩:=mY h;refine UV func38 ntmps38 ?_;refine gP ?_;refine UZ (λw hi=>Fk L M a 4 ha O w (bJ.old h hi)) ?_;refine VP ?_ ?_<;>intro hc1
 .have hc:decide (a+4<=L.n*64)=false:=by simpa using hc1
  refine Va ?_;refine po ?_;unfold CY;rw[hc];exact fx
 have hc:decide (a+4<=L.n*64)=true:=by simpa using hc1
 have hle:a+4<=L.n*64:=of_decide_eq_true hc;refine kF ?_;refine Vs (λi:Nat=>[(0,.p L.bm),(1,.w a),(6,.w (sR M.data a i)),(7,.w (4 - (i:Int)))]) (λ_=>[]) (λi=>i<=4) (λi=>4 - i) (0) O ?_;rintro i hik;refine VJ ?_ ?_<;>intro hc5
 .simp only[ai]at hc5;have hi4:i<4:=by omega
  have ha3:a+(3 - i)<L.n*64:=by omega
  refine UU ?_;refine IY ?_;refine UN ?_;refine Zy (dy (Zv I) (Zv I) (u32_wrap_id _ O O)) ?_;refine Zy (ez (Zv I) (Zv I) (show V9 .u32 ((a:Int)+(4 - (i:Int)) - 1)=((a+(3 - i):Nat):Int) by rw[u32_wrap_id _ O O];omega)) ?_;refine UZ (λw hi=>yU L M (a+(3 - i)) ha3 w (bJ.old h hi)) ?_;have hg:=fW hdb (a+(3 - i));refine Zy (cz I I (Zv I) Ns) ?_;refine Zy (yp py py (GR hdb a hi4)) ?_;refine UU ?_;refine Zy (ez (Zv I) (Zv I) (u32_wrap_id _ O O)) ?_;refine An ?_;refine VM (i+1) O
 simp only[aa]at hc5;obtain rfl:i=4:=by omega
 refine mv ?_;refine po ?_;unfold CY;rw[hc,GS];exact fx
theorem uR(L:fF)(M:UO)(a:Nat)(v:Int)(ha:a+4<=L.n*64)(hv:u32 v):CI prog 288 [.p L.bm,.w a,.w v] [fM L M] (λv' cs=>v'= .bool true/\cs=[fM L (M.TB a v)]):=λw hi=>by
 obtain⟨n1,n64,hdl,hdb,htl⟩:=mY (hi.ok _ (bn ..));refine Vb func288 ntmps288 hi ?_;refine eL ?_;refine UZ (λw hi=>Fk L M a 4 O O w (hi.get Zh)) ?_;rw[ap ha];refine rZ ?_;refine kF ?_;refine Vs (λk:Nat=>[(0,.p L.bm),(1,.w a),(2,.w v),(7,.bool true),(13,.w (k:Int))]) (λk=>[fM L (M.Tj a v k)]) (λk=>k<=4) (λk=>4 - k) (0) O ?_;rintro k hk;refine UH ?_ ?_<;>intro hc5
 .simp only[ai]at hc5;have hk4:k<4:=by omega
  refine kF ?_;refine Zy (dy (Zv I) (Zv I) (show V9 .u32 ((a:Int)+(k:Int))=((a+k:Nat):Int) by rw[u32_wrap_id _ O O];omega)) ?_;refine An ?_;refine Zy (fT py py I) ?_;refine Zy (jT (Zv I) (Zv I) (by rw[au];omega) rfl) ?_;refine Zy (cz I I py (ur v hk4)) ?_;refine Vq ([fM L (M.Tj a v k)]) (λw hi hin=>ro L (M.Tj a v k) (a+k) O (mC v k) (kG v k) w hin) ?_;refine Va ?_;refine Zy (dy (Zv I) (Zv I) (u32_wrap_id _ O O)) ?_;refine An ?_;refine VM (k+1) O
 simp only[aa]at hc5;obtain rfl:k=4:=by omega
 refine fR ?_;refine VA ([Wg _ _ _ _]) ?_;exact fx
theorem yT(L:fF)(M:UO)(p:Nat)(hp:p<L.n)(w:World)(h:(fM L M).ok w):UW prog 144 [.p L.bm,.i p] w [] (λv cs=>∃b,v= .tuple #[.slice (sA b) 64 64,.bool true]/\cs=[sl .u8 5 (sA b) 64 64 ((M.data.drop (p*64)).take 64)]):=by
 obtain⟨n1,n64,hdl,hdb,htl⟩:=mY h;obtain⟨k0,hr0,h1,h2,h3,h4⟩:=qp h;refine UV func144 ntmps144 ?_;refine Wq233 ?_;refine Vz ?_;refine UK ?_;refine cK I (bZ) (UK ?_);refine gS (j9 (bytes:=1) (n:=64) I I I I I I I O gD) I ?_;rintro _ _ ⟨b19,rfl,rfl⟩;rw[px,<-Gi M.data (p*64) 64];refine fR ?_;refine Vs (λk:Nat=>[(0,.p L.bm),(1,.i p),(6,.slice (sA b19) 64 64),(21,.i 64),(22,.i (k:Int))]) (λk=>[sl .u8 5 (sA b19) 64 64 (cpy M.data (p*64) 64 k)]) (λk=>k<=64) (λk=>64 - k) (0) O ?_;rintro k hk;refine UH ?_ ?_<;>intro hc5
 .simp only[ai]at hc5;have hpk:p*64+k<L.n*64:=by omega
  refine nW ?_;refine Wq393 ?_;refine UZ (λw hi=>yU L M (p*64+k) hpk w (bJ.old h hi)) ?_;refine Yj ?_;refine UR ?_;rw[eK,MU _ _ O];exact Xl
 simp only[aa]at hc5;obtain rfl:k=64:=by omega
 rw[MV O];refine ZV ?_;exact⟨b19,I,I⟩
theorem Dm(L:fF)(M:UO)(p:Nat)(hp:p<L.n)(A:Oa)(c:Nat)(l:Li)(hl:J l=64)(hb:Vh l)(w:World)(hi:Inv w (bM [fM L M]) [fM L M] w)(hrd:∀w',dc (bM [fM L M]) w w'->Rd w' .u8 A 64 c l):
  UW prog 357 [.p L.bm,.i p,.slice A 64 c] w [fM L M] (λv' cs=>v'= .bool true/\cs=[fM L (M.fill (p*64) l 64)]):=by
 obtain⟨n1,n64,hdl,hdb,htl⟩:=mY (hi.ok _ (bn ..));have hrw:=hrd w (dc.refl _ _);obtain⟨ad,rfl⟩:=hrw.some_ O;have hpg:∀w0 S cs w,Inv w0 S cs w->Vk cs (fM L M)->UW prog 99 [.p L.bt] w [] (λv cs=>v= .i L.n/\cs=[]):=λw0 S cs w hi hc=>by
  obtain⟨k0,hr0,h1,h2,h3,h4⟩:=qp (hi.get hc);exact zh L.bt L.bp L.o L.bf L.bg L.n w h2
 have hcell:∀w,Inv w (bM [fM L M]) [fM L M] w->True:=λ_ _=>trivial
 refine Vb func357 ntmps357 hi ?_;refine eL ?_;rw[ao (show¬(p:Int)<0 by omega)];refine UQ ?_;refine iX (bR I I) (bO ir (cO I)) (λw hi=>by obtain⟨k0,hr0,h1,h2,h3,h4⟩:=qp (hi.get (UJ (fM L M)));exact cW (cs:=[]) h4 (show(fC L M.SX)[1]? =some (.p L.bt)from I) w (Inv.start w)) I (gm (bR I I) I (dT I (λ_ _=>I) (λw hi=>hpg _ _ _ w hi Zh)) I ?_);refine Vz ?_;refine U8 ?_;refine cK I (bZ) (oO ?_);refine Vs (λk:Nat=>[(0,.p L.bm),(1,.i p),(7,.bool true),(26,.slice (some ad) 64 c),(27,.i 64),(28,.i (k:Int))]) (λk=>[fM L (M.fill (p*64) l k)]) (λk=>k<=64) (λk=>64 - k) (0) O ?_;rintro k hk;refine UH ?_ ?_<;>intro hc5
 .simp only[ai]at hc5;have hkl:k<J l:=by omega
  have hbk:=fW hb k;refine US ?_;refine GA ?_;refine dZ (bO ir py) (tQ hrd (cw (tf hkl))) I (US ?_);refine Wq393 ?_;refine ZA ?_;refine Vq ([fM L (M.fill (p*64) l k)]) (λw hi hin=>ro L (M.fill (p*64) l k) (p*64+k) O (gB l k) hbk w hin) ?_;refine Va ?_;refine W8 ?_;refine VM (k+1) O
 simp only[aa]at hc5;obtain rfl:k=64:=by omega
 refine fR ?_;refine VA ([Wg _ _ _ _]) ?_;exact fx
def TE.cells(e:TE):List Value:=[.bool e.valid,.w e.vpn,.w e.pfn,.w e.bits]
def dG(T:List TE):List Value:=T.flatMap TE.cells
abbrev Tr.cells(t:Tr):List Value:=[.i t.SU,.w t.addr]
abbrev Tr.v(t:Tr):Value:= .agg t.cells.toArray
abbrev TE.v(e:TE):Value:= .agg e.cells.toArray
theorem eG:∀T:List TE,J (dG T)=J T*4
 |[]=>rfl
 |e::T=>by
  have:=eG T;simp only[dG]at this;simp[dG,TE.cells,this];omega
theorem gK:∀{T:List TE} {i:Nat} {e:TE},T[i]? =some e->((dG T).drop (i*4)).take 4=e.cells
 |[],i,e,h=>by simp at h
 |x::T,0,e,h=>by
  simp only[List.getElem?_cons_zero,bh]at h;subst h
  rfl
 |x::T,i+1,e,h=>by
  simp only[List.getElem?_cons_succ]at h;have:=gK h
  grind [dG,TE.cells]
theorem lf:∀{T:List TE} {i:Nat} (e:TE),i<J T->(dG T).take (i*4)++e.cells++(dG T).drop (i*4+4)=dG (T.set i e)
 |[],i,e,h=>by simp at h
 |x::T,0,e,_=>by simp[dG,TE.cells]
 |x::T,i+1,e,h=>by
  have ih:=lf (T:=T) (i:=i) e bZ
  grind [dG,TE.cells]
def AJ(T:List TE)(e:TE):List TE:=bif e.valid then T.set (e.vpn.toNat%16) e else T
def pv(T:List TE)(va:Nat):List TE:=bif(xl T va).vpn==((va/64:Nat):Int)then T.set (va/64%16) TE.zero else T
def rD(n:Nat)(d:Li)(va:Nat)(e:Int):Option (Nat×Int):=
 bif e%2==0 then none else(iH n d (Xt e va)).map λl=>(Xt e va,l)
def iw(n:Nat)(d:Li)(root va:Nat):Option (Nat×Int):=
 bif decide (16384<=va)then none else(iH n d (Xw root va)).bind (rD n d va)
def dE(n:Nat)(M:UO)(root va:Nat)(kind:Int)(SQ:Bool):(TE×Tr)×UO:=
 bif Vo kind==0 then((TE.zero,⟨10,va⟩),M)else
 match iw n M.data root va with
 |none=>((TE.zero,⟨Vo kind,va⟩),M)
 |some (a,l)=>bif bits .and .u32 l (oP kind SQ) !=oP kind SQ then((TE.zero,⟨Vo kind,va⟩),M)else
   ((leafE va (jj l kind),Tr.none),bif jj l kind !=l then M.TB a (jj l kind)else M)
abbrev Sp.v(s:Sp):Value:= .agg #[.bool s.S1,.bool s.SQ,.w (s.root:Int)]
def SY(n:Nat)(U:UI)(s:Sp)(va:Nat)(kind:Int):(Int×Tr)×UI:=
 bif !s.S1 then(((va:Int),Tr.none),U)else
 bif(pu U.t va kind s.SQ).2 then(((pu U.t va kind s.SQ).1,Tr.none),U)else
 bif(dE n U.m s.root va kind s.SQ).1.2.SU !=0 then((0,(dE n U.m s.root va kind s.SQ).1.2),⟨(dE n U.m s.root va kind s.SQ).2,U.t⟩)else
 ((o9 (dE n U.m s.root va kind s.SQ).1.1.pfn va,(dE n U.m s.root va kind s.SQ).1.2),⟨(dE n U.m s.root va kind s.SQ).2,AJ U.t (dE n U.m s.root va kind s.SQ).1.1⟩)
def SR(n:Nat)(U:UI)(s:Sp)(va:Nat)(kind:Int):(Int×Tr)×UI:=
 bif Vo kind==0 then((0,⟨10,va⟩),U)else
 bif(SY n U s va kind).1.2.SU !=0 then((0,(SY n U s va kind).1.2),(SY n U s va kind).2)else
 bif(decide ((SY n U s va kind).1.1<((n*64:Nat):Int))||((kind !=1)&&iG (SY n U s va kind).1.1))then SY n U s va kind else((0,⟨10,va⟩),(SY n U s va kind).2)
abbrev CO(bb:Nat)(T:List TE):bJ:=row bb (dG T) 299
theorem tR(v:Nat)(w:World):CW prog 284 [.w v] w (.w (v%16:Nat)):=by
 refine UV func284 ntmps284 ?_;refine Va ?_;refine Zy (fG (Zv I) (Zv I) O (show _=((v%16:Nat):Int)from by grind)) ?_;exact mZ
theorem J3(kind:Int)(SQ:Bool)(w:World):CW prog 285 [.i kind,.bool SQ] w (.tuple #[.w (asked kind SQ).1,.bool (asked kind SQ).2]):=by
 refine UV func285 ntmps285 ?_;refine jS ?_;refine WK ?_ ?_<;>intro hc4
 .refine fR ?_;refine ZW ?_ ?_<;>intro hc10
  .have hs:SQ=false:=by simpa using hc10
   refine kF ?_;exact WX
  have hs:SQ=true:=by simpa using hc10
  refine eL ?_;exact WX
 refine UH ?_ ?_<;>intro hc6
 .refine fR ?_;refine ZW ?_ ?_<;>intro hc10
  .have hs:SQ=false:=by simpa using hc10
   refine kF ?_;exact WX
  have hs:SQ=true:=by simpa using hc10
  refine eL ?_;exact WX
 refine UH ?_ ?_<;>intro hc8
 .refine fR ?_;refine ZW ?_ ?_<;>intro hc10
  .have hs:SQ=false:=by simpa using hc10
   refine kF ?_;exact WX
  have hs:SQ=true:=by simpa using hc10
  refine eL ?_;exact WX
 refine U8 ?_;exact WX
theorem Ov(bb:Nat)(T:List TE)(hT:J T=16)(va:Nat)(hva:va<=4294967295)(kind:Int)(SQ:Bool)(w:World)(h:(CO bb T).ok w):CW prog 221 [.p bb,.w va,.i kind,.bool SQ] w (.tuple #[.w (pu T va kind SQ).1,.bool (pu T va kind SQ).2]):=by
 have hlt:va/64%16<J T:=by omega
 have he:T[va/64%16]? =some (xl T va):=by simp[xl,hlt]
 obtain⟨e,hee⟩:=Do (xl T va);obtain⟨a,ha⟩:=Do (asked kind SQ);have hA:=J3 kind SQ;unfold pu;rw[hee]at he|-;rw[ha]at hA|-;refine UV func221 ntmps221 ?_;refine U8 ?_;refine Jn ?_;refine UK ?_;refine bQ (Vg [8]) Zk (lO ?_);refine ZE 3 ?_;refine UE 4 0 ?_;refine pS 2 7 Zk ?_ ?_
 .refine V1 (λw hi=>tR (va/64) w) ?_;refine UR ?_;refine Wq302 ?_;refine iK ?_;refine ZP λb11=>?_
  refine gg ?_;refine ZR ?_;refine fh ?_;refine UQ ?_;refine UZ (λw hi=>hA w) ?_;refine jS ?_;refine Ab ?_ ?_<;>intro hc4
  .have hc:kN e va a=true:=hc4;refine Va ?_;refine po ?_;rw[hc];exact fx
  exact Wx57_
 refine ZP λb11=>?_
 refine cP 2 Zk (V1 (λw hi=>tR (va/64) w) ?_);refine UR ?_;refine Wq302 ?_;refine gg ?_;refine ZR ?_;refine fh ?_;refine UQ ?_;refine UZ (λw hi=>hA w) ?_;refine jS ?_;refine Ab ?_ ?_<;>intro hc4
 .have hc:kN e va a=true:=hc4;refine Va ?_;refine po ?_;rw[hc];exact fx
 exact Wx57_
theorem Ow(bb:Nat)(T:List TE)(hT:J T=16)(e:TE)(he:e.wf):CI prog 223 [.p bb,e.v] [CO bb T] (λx cs=>x= .bool e.valid/\cs=[CO bb (AJ T e)]):=λw hi=>by
 obtain⟨v0,v1⟩:=he.vpn;obtain⟨vp,hvp⟩:=aj v0;obtain⟨ev,evpn,epfn,eb⟩:=e;simp only at hvp v0 v1;subst hvp;refine Vb func223 ntmps223 hi ?_;refine An ?_;refine ZO λb3=>?_;refine oU ?_ ?_<;>intro hc1
 .have hv:ev=true:=hc1;subst hv;refine bQ (Vg [8]) Zk (IZ ?_);refine ZI 4 ?_;refine ZE 5 ?_;refine UE 6 0 ?_;refine cP 3 Zk (V1 (λw hi=>tR vp w) ?_);refine UR ?_;refine UY 7 I (dj (j:=(vp%16)) (sz:=4) (r:=(vp%16)*4) I ir (Zv I) (Zv I) (λ_=>by omega) (λ_=>by omega) (by omega)) ?_;refine gg ?_;refine fq I I (gb (n:=4) (vs:=TE.cells ⟨true,(vp:Int),epfn,eb⟩) ir I I (jR I) Za I (by rw[eG];simp only[TE.cells,aE,bD];omega)) ZJ ?_;refine UR ?_;rw[show(TE.cells ⟨true,(vp:Int),epfn,eb⟩).length=4 from I,lf (T:=T) (i:=vp%16) ⟨true,(vp:Int),epfn,eb⟩ (by omega)];refine fh ?_;refine U8 ?_;exact Ew
 have hv:ev=false:=hc1;subst hv;refine eL ?_;exact Ew
end
end Go.Ink
