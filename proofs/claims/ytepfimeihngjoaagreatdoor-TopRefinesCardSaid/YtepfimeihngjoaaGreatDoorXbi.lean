/- Lemmas. -/
import Derived.Test.YtepfimeihngjoaaGreatDoorXak
import Derived.Test.YtepfimeihngjoaaGreatDoorXbd
set_option linter.all false
set_option maxRecDepth 100000
set_option maxHeartbeats 4000000
namespace Go.Ink
open List renaming length→J
open IntKind renaming wrap→V9
open Go.RowKit Go.Proofs.Tryz
section
attribute [local irreducible] Ve bN
variable{n x:Int}
theorem N8{lo hi:Int}(hx:eN n lo hi=x)(w:World)(h0:0<=lo)(h1:lo<=hi)(h2:hi<=1000000000000):CW prog 12 [.i n,.i lo,.i hi] w (.i x):=hx▸fy n lo hi w h0 h1 h2
theorem DG(op:Int)(w:World):UW prog 127 [.i op] w [] (λv cs=>(∃z,v= .i z)/\cs=[]):=by
 refine UV func127 ntmps127 ?_;refine uf ?_ ?_<;>intro hc1
 .refine fS ?_;exact⟨⟨_,I⟩,I⟩
 refine jS ?_;refine VP ?_ ?_<;>intro hc3
 .refine fS ?_;exact⟨⟨_,I⟩,I⟩
 refine jS ?_;refine jS ?_;refine VP ?_ ?_<;>intro hc5
 .refine fS ?_;exact⟨⟨_,I⟩,I⟩
 refine jP ?_;exact⟨⟨_,I⟩,I⟩
theorem LJ(n:Int)(w:World):UW prog 203 [.i n] w [] (λv cs=>(∃z,v= .i z/\z∈sE)/\cs=[]):=by
 obtain⟨x,hx⟩:=Do (eN n 0 1073741824);have hxr:=eM n 0 1073741824 ne;rw[hx]at hxr;have HW:=λw=>N8 hx w ne ne ne
 obtain⟨k,hk⟩:∃k:Nat,x%42=k:=aj O;have hk42:k<J sE:=by show k<42;omega
 have hop:sE[k]? =some (sE[k]'hk42):=ak hk42;have hmem:sE[k]'hk42∈sE:=List.getElem_mem hk42;obtain⟨op,hq⟩:=Do (sE[k]'hk42);rw[hq]at hop hmem;have hk42:k<42:=hk42;refine UV func203 ntmps203 ?_;refine US ?_;refine jQ ?_;rintro _ _ ⟨b4,rfl,rfl⟩;refine US ?_;refine wV ?_;refine An ?_;refine Zy (fG (Zv I) (Zv I) O (show _=(k:Int)from by rw[aq O];exact hk)) ?_;refine Zy (cn (j:=k) (sz:=1) (r:=k) I ir (Zv I) (Zv I) UL UL O) ?_;refine dZ (bO ir py) (da Zh (cw (l:=[1,1,1,2,3,4,5,6,7,8,16,17,18,19,20,21,22,23,24,25,32,33,34,35,36,37,38,39,40,48,49,50,51,52,53,64,65,66,67,68,0,69]) hop)) I (UK ?_);refine Wl ?_;exact⟨⟨_,I,hmem⟩,I⟩
theorem FI(n v:Int)(hv:u32 v)(w:World):UW prog 151 [.i n,.w v] w [] (λx cs=>(∃op nn,x= .agg #[.i op,.w nn]/\u32 nn/\op∈sE)/\cs=[]):=by
 obtain⟨v,rfl⟩:∃m:Nat,v=m:=aj hv.1;have hv2:(v:Int)<=4294967295:=hv.2;obtain⟨x,hx,hxu⟩:∃x,([(v:Int),((v%256:Nat):Int),((32768+v%64:Nat):Int),((v%4096:Nat):Int)]:Li)[v%4]? =some x/\u32 x:=by
  have:v%4=0\/v%4=1\/v%4=2\/v%4=3:=by omega
  rcases this with h|h|h|h<;>rw[h]
  .exact⟨_,I,hv⟩
  .exact⟨_,I,jn O⟩
  .exact⟨_,I,jn O⟩
  exact⟨_,I,jn O⟩
 refine UV func151 ntmps151 ?_;refine An ?_;refine ZN λb4=>?_;refine UQ ?_;refine Vl (λw hi=>LJ n w) ?_;rintro _ _ ⟨⟨op,rfl,hop⟩,rfl⟩;refine ZA ?_;refine ZN λb5=>?_
 refine ZM ?_;refine US ?_;refine Vl (λw hi=>DG op w) ?_;rintro _ _ ⟨⟨z,rfl⟩,rfl⟩;refine Wc ?_ ?_<;>intro hc3
 .refine UN ?_;refine Rm ?_;refine lx ?_;refine nW ?_;refine ZW ?_ ?_<;>intro hc5
  .refine An ?_;refine Zy (fG (Zv I) (Zv I) O (show _=((v%12:Nat):Int)from by rw[aq O];omega)) ?_;refine lx ?_;refine uf ?_ ?_<;>intro hc7
   .exact Wq160
   exact Y5
  refine uf ?_ ?_<;>intro hc7
  .exact Wq160
  exact Y5
 refine UH ?_ ?_<;>intro hc9
 .refine UN ?_;refine Rm ?_;refine ZA ?_;refine Zy (fG (Zv I) (Zv I) O (show _=((v%64:Nat):Int)from by rw[aq O];omega)) ?_;refine Zy (dy (Zv I) (Zv I) (show _=((32768+v%64:Nat):Int)from by rw[u32_wrap_id _ O O];omega)) ?_;refine ZA ?_;refine Zy (fG (Zv I) (Zv I) O (show _=((v%4096:Nat):Int)from by rw[aq O];omega)) ?_;refine jQ ?_;rintro _ _ ⟨b51,rfl,rfl⟩;refine ZA ?_;refine Zy (fG (Zv I) (Zv I) O (show _=((v%4:Nat):Int)from by rw[aq O];omega)) ?_;refine Zy (cn (j:=(v%4)) (sz:=1) (r:=(v%4)) I ir (Zv I) (Zv I) UL UL O) ?_;refine dZ (bO ir py) (da Zh (cw (l:=[(v:Int),((v%256:Nat):Int),((32768+v%64:Nat):Int),((v%4096:Nat):Int)]) hx)) I (lx ?_);exact Y5
 exact Y5
theorem mc{W:World}{v:Value}(h:tK prog W 22 v):∃(B:Oa) (cb:Nat) (b:Li),v= .slice B (J b) cb/\Rd W .u8 B (J b) cb b/\Vh b:=by
 obtain⟨B,cb,b,h1,h2, -,h3⟩:=h.ints (e:=5) (k:= .u8) I I I;exact⟨B,cb,b,h1,h2,λx hx=>Jy (h3 x hx)⟩
end
end Go.Ink
namespace Go.Ink
open List renaming length→J, replicate→R9
open IntKind renaming wrap→V9
open Go.RowKit Go.Proofs.Tryz
variable{l:List (Int×Int)}{k:Nat}{i:Int×Int}
section
attribute [local irreducible] Ve bN
variable{n:Nat}
variable{W:World}
set_option maxRecDepth 100000 in
theorem Pf{es:List Value}(h:VE prog W 274 es):∃a:w7,es=a.cells/\a.ok W:=by
 obtain⟨hl,hf⟩:=h.struct I;have hl:J es=5:=hl
 match es,hl with
 |[c0,c1,c2,c3,c4],_=>
  have k0:VE prog W _ [c0]:=hf 0 _ I;have k1:VE prog W _ [c1]:=hf 1 _ I;have k2:VE prog W _ [c2]:=hf 2 _ I;have k3:VE prog W _ [c3]:=hf 3 _ I;have k4:VE prog W _ [c4]:=hf 4 _ I;obtain⟨n0,rfl,m0⟩:=x8 I k0;obtain⟨n1,rfl,m1⟩:=x8 I k1;obtain⟨n2,rfl,m2⟩:=x8 I k2;obtain⟨n3,rfl,m3⟩:=x8 I k3;obtain⟨A2,d2,x2,e2,r2,b2,z2⟩:=k4.ints (e:=5) (k:= .u8) I I I;obtain rfl:c4=_:=by simpa using e2
  exact⟨⟨n0,n1,n2,n3,A2,d2,x2⟩,I,⟨lR m2,lR m3,r2,λx hx=>Jy (z2 x hx)⟩⟩
set_option maxRecDepth 100000 in
theorem u7{v:Value}(h:tK prog W 71 v):∃(A:Oa) (c:Nat) (l:List w7),v= .slice A (J l) c/\U5 W 5 A (J l) c (l.flatMap w7.cells)/\∀a,a∈l->a.ok W:=by
 obtain⟨A,c,xs,h1,h2,h3,h4⟩:=tK.rows (e:=274) I I w7.Tm ⟨0,0,0,0,none,0,[]⟩ (λes he=>Pf he) h;exact⟨A,c,xs,h1,h2,h3⟩
theorem pM(A:Oa)(c:Nat)(l:List (Int×Int))(hl:J l<=3)(w:World)(h:U5 w 2 A (J l) c (l.flatMap fY)):UW prog 24 [.slice A (J l) c] w [] (λv cs=>∃A' c' E,(Vh E/\J E<=15)/\v= .slice A' (J E) c'/\cs=[sl .u8 5 A' (J E) c' E]):=
 (vZ A c l O w h).mono (λv cs ⟨A',c',h1,h2⟩=>⟨A',c',g9 l,⟨mj _ _,aN (kD _ _) O⟩,h1,h2⟩)
theorem KY(A:Oa)(c:Nat)(l:List w7)(w:World)(h:U5 w 5 A (J l) c (l.flatMap w7.cells))(hl:∀a,a∈l->a.ok w):
  UW prog 97 [.slice A (J l) c,.i 60] w [] (λv cs=>∃A' c' E,(Vh E/\J E<=900)/\v= .slice A' (J E) c'/\cs=[sl .u8 5 A' (J E) c' E]):=by
 have hlm:J l<=maxLen:=aN h.cap h.max;simp only[maxLen]at hlm;refine UV func97 ntmps97 ?_;refine mv ?_;refine dB 5 1 (UK ?_);refine Vs (λq:Nat×Option Addr×Nat×List Int=>[(0,.slice A (J l) c),(1,.i 60),(5,.slice q.2.1 (J q.2.2.2) q.2.2.1),(6,.i (q.1:Int))]) (λq=>[sl .u8 5 q.2.1 (J q.2.2.2) q.2.2.1 q.2.2.2]) (λq=>q.1<=60/\Vh q.2.2.2/\J q.2.2.2<=15*q.1) (λq=>60 - q.1) (⟨0,none,0,[]⟩) ⟨ax _,λx hx=>(by cases hx),aK _⟩ ?_;rintro⟨i,A1,c1,o⟩ ⟨hi60,ho1,ho2⟩;dsimp only at hi60 ho1 ho2|-;refine uf ?_ ?_<;>intro hc3
 .have hil:i<J l/\i<60:=(by revert hc3;cases h1:decide ((i:Int)<(J l:Int))<;>cases h2:decide ((i:Int)<60)<;>simp_all<;>omega);obtain⟨ad,rfl⟩:=h.some_ O;have hla:l[i]? =some (l[i]'hil.1):=ak hil.1;have hok:=hl _ (List.getElem_mem hil.1);obtain⟨r,hr⟩:=Do (l[i]'hil.1);rw[hr]at hla hok;obtain⟨kd,n,v,at_,B,cb,bs⟩:=r;obtain⟨hv,hat,hrd,hbs⟩:=hok;dsimp only at hv hat hrd hbs;obtain⟨v,rfl⟩:∃m:Nat,v=m:=aj hv.1;obtain⟨a,rfl⟩:∃m:Nat,at_=m:=aj hat.1;have hv2:=hv.2;have ha2:=hat.2;obtain⟨km,hkm⟩:=Do (eN kd 0 1000);have HW:=λw=>hkm▸fy kd 0 1000 w ne ne ne
  have hb9:=fI hrd 9;have hE2:J (bs.take 9)<=9:=I0;have hE1:Vh (bs.take 9):=(λx hx=>hbs x (aM hx));have HCut:=λw=>sO B cb bs 9 w hrd.cap
  obtain⟨E,hb9e⟩:=Do (bs.take 9);rw[hb9e]at hb9 hE2 hE1 HCut;have HI1:=FI n a hat;have HI2:=FI n v hv;obtain⟨sop,hs⟩:∃y,([49,51,53]:Li)[v%3]? =some y:=⟨_,ak (show v%3<3 by omega)⟩;obtain⟨lop,hlo⟩:∃y,([48,50,52]:Li)[v%3]? =some y:=⟨_,ak (show v%3<3 by omega)⟩;refine Va ?_;refine Zy (cZ (j:=i) I ir (Zv I) (Zv I) UL UL) ?_;refine dZ (bX (vs:=[.i kd,.i n,.w (v:Int),.w (a:Int),.slice B (J bs) cb]) ir ir py) (fB h (λj v hj=>fw w7.Tm (i:=j) hla hj)) I ?_;refine ZN λb7=>?_
  refine ZM ?_;refine US ?_;refine ZN λb8=>?_
  refine jb ?_;refine Zy (fG (Zv I) (Zv I) O (show _=((a%300:Nat):Int)from by rw[aq O];omega)) ?_;refine ZA ?_;refine ZN λb9=>?_
  refine jb ?_;refine wV ?_;refine YZ ?_;refine Wc ?_ ?_<;>intro hc10
  .refine iC (Vg [12]) [(0,0),(1,4),(2,4),(4,0),(5,4),(6,0),(3,2),(7,0),(8,4),(9,0),(10,2),(11,2),(12,2),(13,0)] Zk Zk (tD ?_);refine Nu ?_;refine Nu ?_;refine Wq261 ?_;rintro _ _ ⟨b50,rfl,rfl⟩;refine ek I (cn (j:=(v%3)) (sz:=1) (r:=(v%3)) I ir (Zv I) (Zv I) UL UL O) I (Az I (bO ir py) (da Zh (cw (l:=[49,51,53]) hs)) I (ek I (uk I I ir I I I Zb) I (Re ?_)));rintro _ _ ⟨b57,rfl,rfl⟩;refine et ?_;refine mX I I (dT I (λ_ _=>I) (λw hi=>pM (sA b57) 3 [(2,(v:Int)),(2,((a%300:Nat):Int)),(sop,0)] cJ w (hi.rd (UJ (slv 51 2 (sA b57) 3 3 ([(2,(v:Int)),(2,((a%300:Nat):Int)),(sop,0)].flatMap fY)))))) ZJ I ?_;exact YQ
  refine UH ?_ ?_<;>intro hc12
  .refine iC (Vg [11]) [(0,0),(1,4),(3,0),(4,4),(5,0),(2,2),(6,0),(7,4),(8,0),(9,2),(10,2),(11,2),(12,0)] Zk Zk (tD ?_);refine Nu ?_;refine Wq261 ?_;rintro _ _ ⟨b64,rfl,rfl⟩;refine ek I (cn (j:=(v%3)) (sz:=1) (r:=(v%3)) I ir (Zv I) (Zv I) UL UL O) I (Az I (bO ir py) (da Zh (cw (l:=[48,50,52]) hlo)) I (ek I (uk I I ir I I I Zb) I (Re ?_)));rintro _ _ ⟨b71,rfl,rfl⟩;refine et ?_;refine mX I I (dT I (λ_ _=>I) (λw hi=>pM (sA b71) 2 [(2,((a%300:Nat):Int)),(lop,0)] cJ w (hi.rd (UJ (slv 51 2 (sA b71) 2 2 ([(2,((a%300:Nat):Int)),(lop,0)].flatMap fY)))))) ZJ I ?_;exact YQ
  refine UH ?_ ?_<;>intro hc14
  .refine UK ?_;refine Zy (fG (Zv I) (Zv I) O (show _=((a%13:Nat):Int)from by rw[aq O];omega)) ?_;refine Zy (fT (Zv I) (Zv I) (show _=((a%13*4:Nat):Int)from by rw[u32_wrap_id _ O O];omega)) ?_;refine Zy (dy (Zv I) (Zv I) (show _=((32768+a%13*4:Nat):Int)from by rw[u32_wrap_id _ O O];omega)) ?_;refine lx ?_;refine UU ?_;refine Zy (fG (Zv I) (Zv I) O (show _=((v%3:Nat):Int)from by rw[aq O];omega)) ?_;refine VP ?_ ?_<;>intro hc16
   .refine UK ?_;refine wF ?_;rintro _ _ ⟨b89,rfl,rfl⟩;refine Vl (λw hi=>pM (sA b89) 2 [(2,((32768+a%13*4:Nat):Int)),(48,0)] cJ w (hi.rd (UJ (slv 51 2 (sA b89) 2 2 ([(2,((32768+a%13*4:Nat):Int)),(48,0)].flatMap fY))))) ?_;exact Yc
   refine UK ?_;refine Rm ?_;refine UN ?_;refine wF ?_;rintro _ _ ⟨b99,rfl,rfl⟩;refine Vl (λw hi=>pM (sA b99) 3 [(1,((v%256:Nat):Int)),(2,((32768+a%13*4:Nat):Int)),(49,0)] cJ w (hi.rd (UJ (slv 51 2 (sA b99) 3 3 ([(1,((v%256:Nat):Int)),(2,((32768+a%13*4:Nat):Int)),(49,0)].flatMap fY))))) ?_;exact Yc
  refine UH ?_ ?_<;>intro hc19
  .refine UK ?_;refine Rm ?_;refine UN ?_;refine Zy (fG (Zv I) (Zv I) O (show _=((a%12:Nat):Int)from by rw[aq O];omega)) ?_;refine ZA ?_;refine wF ?_;rintro _ _ ⟨b113,rfl,rfl⟩;refine Vl (λw hi=>pM (sA b113) 2 [(1,((v%256:Nat):Int)),(67,((a%12:Nat):Int))] cJ w (hi.rd (UJ (slv 51 2 (sA b113) 2 2 ([(1,((v%256:Nat):Int)),(67,((a%12:Nat):Int))].flatMap fY))))) ?_;exact Yc
  refine UH ?_ ?_<;>intro hc21
  .refine UK ?_;refine UZ (λw hi=>HCut w) ?_;refine gS (cC (e:=5) (sz:=1) (bytes:=1) I I Za I I (λw hi=>hb9.Tb hi) cR gD O) I ?_;rintro _ _ ⟨A3,c3,rfl,rfl⟩;refine NC ?_;exact Wx2_
  refine UH ?_ ?_<;>intro hc23
  .refine iC (Vg [12]) [(0,0),(1,0),(2,4),(3,0),(4,0),(5,0),(6,4),(7,0),(8,4),(9,2),(10,2),(11,2),(12,2),(13,0)] Zk Zk (tD ?_);refine ek I (dg 2 I py Zf) I (z5 ?_);refine ek I (fG (Zv I) (Zv I) O (show _=((v%256:Nat):Int)from by rw[aq O];omega)) rfl (ek rfl (uk rfl rfl ir rfl rfl rfl Zb) rfl (ek rfl (dg 1 rfl py Zf) rfl (z5 ?_)));refine ek I (dg 3 I py Zf) I (z5 ?_);refine et ?_;refine mX I I (dT I (λ_ _=>I) (λw hi=>HI1 w)) ZJ I ?_;rintro _ _ ⟨_,⟨⟨op,nn,rfl,hnu, -⟩,rfl⟩,rfl⟩;refine Re ?_;rintro _ _ ⟨b135,rfl,rfl⟩;refine et ?_;refine mX I I (dT I (λ_ _=>I) (λw hi=>pM (sA b135) 2 [(1,((v%256:Nat):Int)),(op,nn)] cJ w (hi.rd (UJ (slv 51 2 (sA b135) 2 2 ([(1,((v%256:Nat):Int)),(op,nn)].flatMap fY)))))) ZJ I ?_;exact YQ
  refine UU ?_;refine Vl (λw hi=>HI2 w) ?_;rintro _ _ ⟨⟨op,nn,rfl,hnu, -⟩,rfl⟩;refine wF ?_;rintro _ _ ⟨b42,rfl,rfl⟩;refine Vl (λw hi=>pM (sA b42) 1 [(op,nn)] cJ w (hi.rd (UJ (slv 51 2 (sA b42) 1 1 ([(op,nn)].flatMap fY))))) ?_;exact Yc
 refine fR ?_;refine VA ([slv _ _ _ _ _ _]) ?_;exact⟨A1,c1,o,⟨ho1,by omega⟩,rfl,rfl⟩
theorem zx(A B:Oa)(c e:Nat)(l:List w7)(SV:Int)(k:Li)(hk:Vh k)(w:World)(h:U5 w 5 A (J l) c (l.flatMap w7.cells))(hl:∀a,a∈l->a.ok w)(hB:Rd w .u8 B (J k) e k):
  UW prog 32 [.slice A (J l) c,.i SV,.slice B (J k) e] w [] (λv cs=>∃(A':Oa) (c':Nat) (E E2:Li) (n:Nat),(Vh E/\(1<=n/\n<=16)/\J (E.take (n*64))<=n*64)/\v=NZ A' c' (E.take (n*64)) B e (k.take 1024) n/\cs=[sl .u8 5 A' (J E) c' E]):=by
 have HP:=KY A c l;obtain⟨m,hm⟩:=Do (eN SV 0 15);have hmr:=eM SV 0 15 ne;rw[hm]at hmr;have HW:=λw=>hm▸fy SV 0 15 w ne ne ne
 obtain⟨n0,rfl⟩:∃q:Nat,m=q:=aj hmr.1;have HK:=λw=>sO B e k 1024 w hB.cap
 refine UV func32 ntmps32 ?_;refine An ?_;refine ZN λb6=>?_;refine UQ ?_;refine wV ?_;refine Zy (dy (Zv I) (Zv I) (show _=((1+n0:Nat):Int)from by rw[aQ _ ⟨by omega,by omega⟩];omega)) ?_;refine UU ?_;refine Vl (λw hi=>HP w (h.Tb hi) (λa ha=>⟨(hl a ha).v,(hl a ha).at_,(hl a ha).rd.Tb hi,(hl a ha).bs⟩)) ?_;rintro _ _ ⟨A1,c1,E,⟨hE1,hE2⟩,rfl,rfl⟩;refine ZA ?_;refine Zy (fT (Zv I) (Zv I) (show _=(((1+n0)*64:Nat):Int)from by rw[aQ _ ⟨by omega,by omega⟩];omega)) ?_;refine UZ (λw hi=>sO A1 c1 E ((1+n0)*64) w (hi.rd (UJ (sl .u8 5 A1 (J E) c1 E))).cap) ?_;refine ZA ?_;refine UZ (λw hi=>HK w) ?_;refine An ?_;refine oV ?_;exact bK [row b6 [.slice A1 (J (E.take ((1+n0)*64))) c1,.slice B (J (k.take 1024)) e,.i ((1+n0:Nat):Int)] 27,sl .u8 5 A1 (J E) c1 E] Zj (lL (cs':=[sl .u8 5 A1 (J E) c1 E]) (.inl I) Zu I I Zh ir ir ⟨A1,c1,E,[],1+n0,⟨hE1,⟨by omega,by omega⟩,by rw[aO];omega⟩,rfl,rfl⟩)
end
end Go.Ink
namespace Go.Ink
open List renaming length→J, replicate→R9
open IntKind renaming wrap→V9
open Go.RowKit Go.Proofs.Tryz
variable{d:UF}
variable{k:Nat}
section
attribute [local irreducible] Ve bN
variable{n:Nat}{s:St}{U:UI}
theorem Vc.init18{b:Li}(h1:1<=n)(h64:n<=64)(h:J b<=n*64)(hb:Vh b):Vc n (UO.init n b):=
 ⟨TT h hb,h1,h64,λj hj=>by
  show(R9 64 false).getD j false=false;rw[aS];cases hx:(R9 64 false)[j]? with
  |none=>rfl
  |some b=>exact(List.mem_replicate.1 (aG hx)).2⟩
structure G18(n k:Nat)(s:St)(U:UI)(d:UF):Prop where
 g:VN n s U d
 m:Vc n U.m
 i:VO d
 o:J d.out<=8*k
theorem qy{l k:Li}(hn0:1<=n)(hn:n<=64)(hl:J l<=n*64)(hb:Vh l)(hk:J k<=1024)(hkb:Vh k):G18 n 0 St.new ⟨UO.init n l,cX⟩ (UF.init k):=
 ⟨B7 hl hb hk hkb,Vc.init18 hn0 hn hl hb,⟨ax _⟩,aK _⟩
end
end Go.Ink
namespace Go.Ink
open List renaming length→J, replicate→R9
open IntKind renaming wrap→V9
open Go.RowKit Go.Proofs.Tryz
variable{n:Nat}{s:St}{U:UI}{d:UF}
section
attribute [local irreducible] Ve bN
structure WQ(n o:Nat)(s:St)(U:UI)(d:UF):Prop where
 g:VN n s U d
 m:Vc n U.m
 i:VO d
 o:J d.out<=o
variable{o:Nat}
theorem WQ.le{o2:Nat}(h:WQ n o s U d)(ho:o<=o2):WQ n o2 s U d:=⟨h.g,h.m,h.i,aN h.o ho⟩
end
end Go.Ink
