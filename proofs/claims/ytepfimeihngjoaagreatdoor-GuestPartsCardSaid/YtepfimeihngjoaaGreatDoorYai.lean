/- Lemmas. -/
import Derived.Test.YtepfimeihngjoaaGreatDoorYad
import Derived.Test.YtepfimeihngjoaaGreatDoorYae
import Derived.Test.YtepfimeihngjoaaGreatDoorYaf
set_option linter.all false
set_option maxRecDepth 100000
set_option maxHeartbeats 4000000
namespace Go.Ink
open List renaming length→J, replicate→R9
open IntKind renaming wrap→V9
open Go.RowKit Go.Proofs.Tryz
section
attribute [local irreducible] UL bM
def dN(s:St)(op n:Int):Int:=
 bif !eG op n then 1 else bif lz op&& !s.Sy then 2 else bif op==66&& !(s.get n).2 then 1 else bif op==67&& !(s.set n 0).2 then 1 else qe s (bR op)
end
end Go.Ink
namespace Go.Ink
open List renaming length→J, replicate→R9
open IntKind renaming wrap→V9
open Go.RowKit Go.Proofs.Tryz
section
attribute [local irreducible] UL bM
variable{s:St}
variable{op:Int}
theorem lm{n:Int}(h:dN s op n=0):(bR op).1.1<=J s.d/\(bR op).2.1<=J s.r:=by
 unfold dN at h;revert h;refine Wq134 ?_;refine Wq134 ?_;exact Dh
abbrev RJ(r:Wn)(X:eN)(Ap:Oa)(cp:Nat):List bH:=[UP r.s X.Ad X.cd,UU r.s X.Ar X.cr,sl .i64 3 Ap (J r.SC) cp r.SC]
theorem St.fits(h:s.right=true):J s.d<=16/\J s.r<=16/\s.flags<=15:=by
 grind [St.right]
theorem kS.S4{w0 w w':World}{cs cin rest:List bH}{s:St}{Ad Ar:Oa}{cd cr:Nat}(h:kS w0 s Ad Ar cd cr)(hi:Inv w0 [] cs w)(hp:ga cin cs rest)(hk:cX (bK cin) w w'):kS w' s Ad Ar cd cr:=
 ⟨UJ.S4 h.d hi hp hk,UJ.S4 h.r hi hp hk,h.hd,h.hr⟩
theorem _root_.Go.Ink.Inv.Tz{w0 w w':World}{S:List Nat}{cs cin rest:List bH}{Ad Ar:Oa}{cd cr:Nat}(hi:Inv w0 S cs w)(hp:ga cin cs rest)(h1:UQ rest (UP s Ad cd))(h2:UQ rest (UU s Ar cr))(hd:J s.d*4<=140737488355328)(hr:J s.r*4<=140737488355328)(hk:cX (bK cin) w w'):kS w' s Ad Ar cd cr:=
 ⟨hi.TC hp h1 hk,hi.TC hp h2 hk,hd,hr⟩
theorem GS(n:Nat)(hn:n<=64)(w:World):Uz prog 116 [.i n] w [] (λv cs=>∃K,v= .p K.bm/\cs=oM K n (R9 (n*64) 0) (R9 n false)):=by
 refine UB func116 ntmps116 ?_;refine UA ?_;refine sS ?_;refine ZE 0 ?_;refine UF 1 I (fL (Zv I) (Zv I) (show _=((n*64:Nat):Int)from aN _ ⟨by omega,by omega⟩|>.trans (by omega))) ?_;refine ZE 3 ?_;refine rU 2 4 Zk ?_ ?_
 .refine jX I I (jT (bytes:=1) (n:=n*64) I I I I I I I (by omega) gI) ZJ rfl ?_;rintro _ _ ⟨bB,rfl,rfl⟩;refine cQ 4 Zk (jX I I (jT (bytes:=1) (n:=n) I I I I I I I (by omega) gI) ZJ rfl ?_);rintro _ _ ⟨bT,rfl,rfl⟩;exact Wx98_
 refine jX I I (jT (bytes:=1) (n:=n) I I I I I I I (by omega) gI) ZJ rfl ?_;rintro _ _ ⟨bT,rfl,rfl⟩;refine cQ 2 Zk (jX I I (jT (bytes:=1) (n:=n*64) I I I I I I I (by omega) gI) ZJ rfl ?_);rintro _ _ ⟨bB,rfl,rfl⟩;exact Wx98_
theorem CY(bm:Nat)(w:World):Uz prog 67 [.p bm] w [] (λv cs=>∃bx,v= .p bx/\cs=[fw bx bm dA]):=by
 refine UB func67 ntmps67 ?_;refine UE ?_;refine ZO λb5=>?_
 exact M8
theorem CX(bm:Nat)(A:Oa)(c:Nat)(l:Li)(hl:J l<=1024)(w:World)(h:Rd w .u8 A (J l) c l):Uz prog 69 [.p bm,.slice A (J l) c] w []
  (λv cs=>∃b bd,v= .p b/\cs=eW b bm bd ⟨none,0,none,0⟩ (Un.init l)):=by
 refine UB func69 ntmps69 ?_;refine Ux ?_;refine gJ (jT (bytes:=1) (n:=1024) I I I I I I I O gI) I ?_;rintro _ _ ⟨bd,rfl,rfl⟩;rw[pm];refine Ux ?_;refine QY ?_;rintro _ _ ⟨rfl,rfl⟩;have hd:(ints .u8 (R9 1024 0)).take 0++(ints .u8 l).take (min (J l) 1024)++(ints .u8 (R9 1024 0)).drop (0+min (J l) 1024)=ints .u8 (oY l):=by(rw[Nat.min_eq_left hl,iO,iO,nH,List.take_zero,List.take_length,bA,List.drop_replicate];simp[ints,oY])
 rw[hd];refine Ux ?_;refine ZO λb13=>?_
 refine dg 5 1 (Α (Ut ?_));refine bI (eW b13 bm bd ⟨none,0,none,0⟩ (Un.init l)) Zj (Vd ([row _ _ _,slv _ _ _ _ _ _,V6 _ _ _ _,slv _ _ _ _ _ _]) ?_);exact⟨b13,bd,I,I⟩
variable{l:Li}
variable{n:Nat}
theorem Uy.ok.put{n:Nat}{M:Uy}(h:M.ok n)(a:Nat){b:Int}(hb:0<=b/\b<=255):(M.put a b).ok n:=
 ⟨by show(M.data.set _ _).length=_;simp[h.dl],Κ h.db hb,by show(M.SD.set _ _).length=_;simp[h.tl]⟩
theorem Uy.ok.SY{n:Nat}{M:Uy}(h:M.ok n)(a:Nat)(v:Int):∀k,(M.SY a v k).ok n
 |0=>h
 |k+1=>(Uy.ok.SY h a v k).put _ (ku v k)
theorem Uy.ok.SZ{n:Nat}{M:Uy}(h:M.ok n)(l:Li)(v:Int):∀k,(SZ M l v k).ok n
 |0=>h
 |k+1=>(Uy.ok.SZ h l v k).put _ (ku v k)
theorem Uy.ok.fill{n:Nat}{M:Uy}(h:M.ok n)(a:Nat){l:Li}(hl:UO l):∀k,(M.fill a l k).ok n
 |0=>h
 |k+1=>(Uy.ok.fill h a hl k).put _ (fF hl k)
theorem Uy.ok.calm{n:Nat}{M:Uy}(h:M.ok n):M.calm.ok n:=⟨h.dl,h.db,aB⟩
theorem TB{b:Li}(h:J b<=n*64)(hb:UO b):(Uy.init n b).ok n:=by
 refine⟨by simp[Uy.init];omega,λx hx=>?_,aB⟩;rcases aK.1 hx with hx|hx
 .exact hb x hx
 grind
theorem trN:Ww Tr.none:=⟨u0,by decide,by decide⟩
theorem tr11:Ww ⟨11,0⟩:=⟨u0,by decide,by decide⟩
structure Wg(n:Nat)(U:Uo):Prop where
 m:U.m.ok n
 t:J U.t=16
theorem gB_u32(h:UO l)(a:Nat):u32 (gB l a):=by have:=fF h a;exact⟨this.1,by omega⟩
theorem qr(r:Int):dj r=0\/dj r=1\/dj r=2\/dj r=3:=by
 unfold dj;generalize (bits .and .u32 r 2147483648 !=0)=c1;generalize (r==0)=c2;revert c1 c2;decide
theorem ry(a b r x:Int)(c:Bool)(o:Int):0<=mb a b r (dj x) c o/\mb a b r (dj x) c o<=15:=by
 unfold mb;generalize (o !=0)=c1;rcases qr x with h|h|h|h<;>rw[h]<;>revert c c1<;>decide
theorem arOf_ok{r:Int}(h:u32 r):Xp (zk r):=by
 refine⟨h,?_⟩;show 0<=dj r/\dj r<=15
 grind [qr]
theorem arDo_ok(op:Int){a b:Int}(ha:u32 a):Xp (gP op a b):=by
 have h0:Xp (0,0,false):=⟨u0,by decide,by decide⟩;unfold gP;refine bJ Xp ⟨wrap_u32 _,ry a b 0 _ _ _⟩ ?_;refine bJ Xp ⟨wrap_u32 _,ry a b 0 _ _ _⟩ ?_;refine bJ Xp ⟨u0,ry a b 0 _ _ _⟩ ?_
 grind [Xp,arOf_ok,eu,da,u32,u0,wrap_u32,FC]
end
end Go.Ink
namespace Go.Ink
open List renaming length→J, replicate→R9
open IntKind renaming wrap→V9
open Go.RowKit Go.Proofs.Tryz
variable{n:Nat}
variable{s:St}
section
variable{n:Nat}{op:Int}{d:Un}
theorem qO:J dA=16:=aB
theorem Di{q:(Nat×Nat)×(Nat×Nat)}(h:qe s q=0):(J s.d:Int) - q.1.1+q.1.2<=16/\(J s.r:Int) - q.2.1+q.2.2<=16:=by
 grind [qe]
theorem BM{n:Int}(h:dN s op n=0):(J s.d:Int) - (bR op).1.1+(bR op).1.2<=16/\(J s.r:Int) - (bR op).2.1+(bR op).2.2<=16:=by
 unfold dN at h;revert h;refine Wq72 ?_;refine Wq72 ?_;exact Di
end
section
attribute [local irreducible] UL bM
theorem ND{n lo hi x:Int}(hx:gi n lo hi=x)(w:World)(h0:0<=lo)(h1:lo<=hi)(h2:hi<=1000000000000):CW prog 12 [.i n,.i lo,.i hi] w (.i x):=hx▸lL n lo hi w h0 h1 h2
end
section
variable{cs:List bH}{v:Value}{x:Operand}
variable{ad:Addr}
variable{xs:List Value}
theorem ln{w:World}{ad:Addr}{b:Nat}:∀{vs:List Value} {i:Nat},(∀j v,vs[j]? =some v->w.cell? (ad.add (b+i+j))=some v)->cells (eX (ad.add b) i vs) w
 |[],_,_=>λx hx=>by cases hx
 |u::vs,i,h=>λx hx=>by
  rcases aI.1 hx with rfl|hx
  .show w.cell? ((ad.add b).add i)=some u;rw[rG];exact h 0 u I
  exact ln (vs:=vs) (i:=i+1) (λj v hj=>by
   have:=h (j+1) v (by simpa using hj);rwa[show b+i+(j+1)=b+(i+1)+j by omega]at this) x hx
theorem fP{w0:World}{sz c b:Nat}{vs:List Value}(h:UJ w0 sz (some ad) n c xs)(hv:∀j v,vs[j]? =some v->xs[b+j]? =some v):∀w,Inv w0 [] cs w->cells (eX (ad.add b) 0 vs) w:=λw hi=>
 ln λj v hj=>by
  rw[Nat.add_zero];exact(h.SS hi).at_ ad I (b+j) v (hv j v hj)
end
theorem fK{α:Type}{f:α->List Value}{sz:Nat}(hf:∀a,J (f a)=sz):∀{xs:List α} {k i:Nat} {a:α} {v:Value},xs[k]? =some a->(f a)[i]? =some v->(xs.flatMap f)[k*sz+i]? =some v
 |[],k,i,a,v,h,_=>by simp at h
 |x::xs,0,i,a,v,h,h2=>by
  simp only[List.getElem?_cons_zero,aW]at h;subst h;have:=(ap.1 h2).1;rw[List.flatMap_cons,Nat.zero_mul,bA,List.getElem?_append_left this];exact h2
 |x::xs,k+1,i,a,v,h,h2=>by
  rw[List.flatMap_cons,List.getElem?_append_right (by rw[hf,Nat.succ_mul];omega),hf,show(k+1)*sz+i - sz=k*sz+i by rw[Nat.succ_mul];omega];exact fK hf (by simpa using h) h2
structure XT where
 n:Int
 v:Int
 At:Option Addr
 ct:Nat
 ts:List Int
 raw:Bool
 op:Int
 nn:Int
def XT.cells(a:XT):List Value:=[.i a.n,.w a.v,.slice a.At (J a.ts) a.ct,.bool a.raw,.i a.op,.w a.nn]
theorem XT.S6(a:XT):J a.cells=6:=rfl
section
attribute [local irreducible] UL bM
theorem CU(op:Int)(w:World):Uz prog 127 [.i op] w [] (λv cs=>(∃z,v= .i z)/\cs=[]):=by
 refine UB func127 ntmps127 ?_;refine tH ?_ ?_<;>intro hc1
 .refine fC ?_;exact⟨⟨_,I⟩,I⟩
 refine jF ?_;refine Vs ?_ ?_<;>intro hc3
 .refine fC ?_;exact⟨⟨_,I⟩,I⟩
 refine jF ?_;refine jF ?_;refine Vs ?_ ?_<;>intro hc5
 .refine fC ?_;exact⟨⟨_,I⟩,I⟩
 refine jE ?_;exact⟨⟨_,I⟩,I⟩
theorem K5(n:Int)(w:World):Uz prog 203 [.i n] w [] (λv cs=>(∃z,v= .i z/\z∈sb)/\cs=[]):=by
 obtain⟨x,hx⟩:=Uk (gi n 0 1073741824);have hxr:=kg n 0 1073741824 An;rw[hx]at hxr;have HW:=λw=>ND hx w An An An
 obtain⟨k,hk⟩:∃k:Nat,x%42=k:=ai O;have hk42:k<J sb:=by show k<42;omega
 have hop:sb[k]? =some (sb[k]'hk42):=aj hk42;have hmem:sb[k]'hk42∈sb:=List.getElem_mem hk42;obtain⟨op,hq⟩:=Uk (sb[k]'hk42);rw[hq]at hop hmem;have hk42:k<42:=hk42;refine UB func203 ntmps203 ?_;refine Ux ?_;refine jP ?_;rintro _ _ ⟨b4,rfl,rfl⟩;refine Ux ?_;refine UD (λw hi=>HW w) ?_;refine py ?_;refine Zy (fH (Zv I) (Zv I) O (show _=(k:Int)from by rw[aw O];exact hk)) ?_;refine Zy (bW (j:=k) (sz:=1) (r:=k) I ir (Zv I) (Zv I) Uq Uq O) ?_;refine dW (bL ir ne) (cN Zh (bX (l:=[1,1,1,2,3,4,5,6,7,8,16,17,18,19,20,21,22,23,24,25,32,33,34,35,36,37,38,39,40,48,49,50,51,52,53,64,65,66,67,68,0,69]) hop)) I (Ut ?_);refine VW ?_;exact⟨⟨_,I,hmem⟩,I⟩
theorem Fh(n v:Int)(hv:u32 v)(w:World):Uz prog 151 [.i n,.w v] w [] (λx cs=>(∃op nn,x= .agg #[.i op,.w nn]/\u32 nn/\op∈sb)/\cs=[]):=by
 obtain⟨v,rfl⟩:∃m:Nat,v=m:=ai hv.1;have hv2:(v:Int)<=4294967295:=hv.2;obtain⟨x,hx,hxu⟩:∃x,([(v:Int),((v%256:Nat):Int),((32768+v%64:Nat):Int),((v%4096:Nat):Int)]:Li)[v%4]? =some x/\u32 x:=by
  have:v%4=0\/v%4=1\/v%4=2\/v%4=3:=by omega
  rcases this with h|h|h|h<;>rw[h]
  .exact⟨_,I,hv⟩
  .exact⟨_,I,i7 O⟩
  .exact⟨_,I,i7 O⟩
  exact⟨_,I,i7 O⟩
 refine UB func151 ntmps151 ?_;refine py ?_;refine ZN λb4=>?_;refine Uu ?_;refine UW (λw hi=>K5 n w) ?_;rintro _ _ ⟨⟨op,rfl,hop⟩,rfl⟩;refine ZA ?_;refine ZN λb5=>?_
 refine ZM ?_;refine Ux ?_;refine UW (λw hi=>CU op w) ?_;rintro _ _ ⟨⟨z,rfl⟩,rfl⟩;refine VM ?_ ?_<;>intro hc3
 .refine Us ?_;refine Rf ?_;refine mR ?_;refine oQ ?_;refine ZW ?_ ?_<;>intro hc5
  .refine py ?_;refine Zy (fH (Zv I) (Zv I) O (show _=((v%12:Nat):Int)from by rw[aw O];omega)) ?_;refine mR ?_;refine tH ?_ ?_<;>intro hc7
   .exact Wq151
   exact YE
  refine tH ?_ ?_<;>intro hc7
  .exact Wq151
  exact YE
 refine Ul ?_ ?_<;>intro hc9
 .refine Us ?_;refine Rf ?_;refine ZA ?_;refine Zy (fH (Zv I) (Zv I) O (show _=((v%64:Nat):Int)from by rw[aw O];omega)) ?_;refine Zy (dr (Zv I) (Zv I) (show _=((32768+v%64:Nat):Int)from by rw[u32_wrap_id _ O O];omega)) ?_;refine ZA ?_;refine Zy (fH (Zv I) (Zv I) O (show _=((v%4096:Nat):Int)from by rw[aw O];omega)) ?_;refine jP ?_;rintro _ _ ⟨b51,rfl,rfl⟩;refine ZA ?_;refine Zy (fH (Zv I) (Zv I) O (show _=((v%4:Nat):Int)from by rw[aw O];omega)) ?_;refine Zy (bW (j:=(v%4)) (sz:=1) (r:=(v%4)) I ir (Zv I) (Zv I) Uq Uq O) ?_;refine dW (bL ir ne) (cN Zh (bX (l:=[(v:Int),((v%256:Nat):Int),((32768+v%64:Nat):Int),((v%4096:Nat):Int)]) hx)) I (mR ?_);exact YE
 exact YE
theorem kz{W:World}{k:IntKind}{A:Oa}{c:Nat}{b:Li}(h:Rd W k A (J b) c b)(m:Nat):Rd W k A (J (b.take m)) c (b.take m):=by
 refine⟨by simp[ints],?_,h.max,λe=>?_,λad e j u hu=>h.at_ ad e j u ?_⟩
 .have:=h.cap;rw[aU];omega
 .have:=h.nil e;rw[aU];omega
 unfold ints at hu|-;rw[List.getElem?_map]at hu|-;rw[List.getElem?_take]at hu;by_cases hj:j<m
 .simpa[hj]using hu
 simp[hj]at hu
theorem FR(A:Oa)(c:Nat)(l:Li)(k:Nat)(w:World)(hc:J l<=c):CW prog 13 [.slice A (J l) c,.i k] w (.slice A (J (l.take k)) c):=by
 rw[aU,Nat.min_comm];refine UB func13 ntmps13 ?_;refine tH ?_ ?_<;>intro hc1
 .simp only[ah]at hc1;have e:min (J l) k=k:=by omega
  rw[e];refine Ut ?_;refine Zy (eO k I ir (Zv I) (Zv I) qD Uq) ?_;exact vG
 simp only[aa]at hc1;have e:min (J l) k=J l:=by omega
 rw[e];refine UE ?_;exact vB
def kE(b:Nat):Nat->Nat->Option Nat
 |_,0=>none
 |k,m+1=>bif b/2^k%2==1 then some k else kE b (k+1) m
def jy(b:Nat):Option Nat:=kE b 0 8
def tzSay(x:Nat):Bool:=x==0||match jy x with
 |some k=>decide (0<=I8 x)&&decide (I8 x<32)&&(Gr[(I8 x).toNat]? ==some (k:Int))&&decide (k<8)
 |none=>false
theorem tz_all:(List.range 256).all tzSay=true:=by decide+kernel
theorem I7{x:Nat}(h0:0<x)(h:x<256):∃k j:Nat,jy x=some k/\k<8/\I8 x=(j:Int)/\j<32/\Gr[j]? =some (k:Int):=by
 have h1:=List.all_eq_true.1 tz_all x (List.mem_range.2 h);have e:(x==0)=false:=by simp;omega
 unfold tzSay at h1;rw[e,bh]at h1;cases hl:jy x with
 |none=>rw[hl]at h1;cases h1
 |some k=>
  rw[hl]at h1;simp only[aC,ah,beq_iff_eq]at h1;obtain⟨⟨⟨h2,h3⟩,h4⟩,h5⟩:=h1;exact⟨k,(I8 x).toNat,I,h5,by omega,by omega,h4⟩
theorem O7:jy 0=none:=by decide
def Pt(d:Un):Option Nat:=jy (bits .and .u32 d.SU d.mask).toNat
def told(s:St)(d:Un):St:=match Pt d with
 |some k=>bif s.ie then s.SL ((16+k:Nat):Int) 0 else s
 |none=>s
structure we where
 s:St
 place:Int
 runs:Bool
 u:Uo
 d:Un
def dH(b:Li):Option ((Int×Int)×Nat):=
 match b with
 |[]=>none
 |op::l=>bif cw op==0 then none else bif decide ((J l:Int)+1<cw op)then none else some ((op,sE (l.take ((cw op).toNat - 1))),(cw op).toNat)
def dI(n:Nat)(M:Uy)(p:Nat):Option ((Int×Int)×Nat):=
 bif decide (p/64<n)then dH (((M.data.drop (p/64*64)).take 64).drop (p%64))else none
def iY(op:Int)(r:Wn)(SR was:Int):Bool:=bif gg op||r.TH||r.device||r.s.halted||r.SC.contains SR then false else(r.s.pc/64==was/64)
theorem lG.old{w0 w:World}{cs:List bH}(h:lG w0)(hi:Inv w0 [] cs w):lG w:=UJ.SS h hi
theorem NX{w0:World}{cs:List bH}{j:Nat}{a:Int}(ht:lG w0)(h:Gr[j]? =some a):∀w,Inv w0 [] cs w->cells [(⟨0,0+j*1,none⟩,.int .u8 a)] w:=by
 have h5:=dG (w0:=w0) (cs:=cs) ht (bX h);rw[Addr.add_lit]at h5;exact h5
theorem tz_ok(x k:Nat)(h0:0<x)(h:x<256)(hk:jy x=some k)(w:World)(ht:lG w):CW prog 180 [.w (x:Int)] w (.i (k:Int)):=by
 obtain⟨k',j,e1,e5,e2,e3,e4⟩:=I7 h0 h;obtain rfl:k'=k:=aG (e1.symm.trans hk);refine UB func180 ntmps180 ?_;refine fo ?_;refine cG I ((bE.2 O)) (UA ?_);refine Zy (y_neg ne I) ?_;refine ZA ?_;refine Zy (fL ne ne I) ?_;refine Zy (jH (Zv I) (Zv I) O (show _=(j:Int)from e2)) ?_;refine Zy (dc (j:=j) (sz:=1) (r:=0+j*1) I ir (Zv I) (Zv I) Uq Uq O) ?_;refine dW (bL ir ne) (NX ht e4) I (sO ?_);exact oR
theorem due_ok(b:Nat)(t count:Int):CI prog 179 [.p b,.int .u64 count] [NQ b t] (λv cs=>v= .bool (!((t==0)||decide (V9 .u32 count<t)))/\cs=[NQ b (bif(t==0)||decide (V9 .u32 count<t)then t else 0)]):=λw hi=>by
 refine UH func179 ntmps179 hi ?_;refine oQ ?_;refine Wm I I (cA I I (cU I) I) ?_;refine V1 ?_ ?_<;>intro hc1
 .rw[hc1];refine Ux ?_;exact y8
 rw[hc1];refine Ux ?_;refine ZL ?_;refine UG ?_;exact y8
theorem lines0:kG [0]=1:=by decide
theorem yM(op:Int)(w:World):CW prog 202 [.i op] w (.bool (gg op)):=by
 refine UB func202 ntmps202 ?_;refine jF ?_;exact vG
theorem Px(A:Oa)(c:Nat)(l:Li)(x:Int)(w:World)(h:Rd w .i64 A (J l) c l):Uz prog 218 [.slice A (J l) c,.i x] w [] (λv cs=>(∃z,v= .i z/\decide (0<=z)=l.contains x)/\cs=[]):=by
 have hlm:J l<=maxLen:=aR h.cap h.max;simp only[maxLen]at hlm;refine UB func218 ntmps218 ?_;refine jG ?_;refine UX (λk:Nat=>[(0,.slice A (J l) c),(1,.i x),(7,.i (J l:Int)),(8,.i (k:Int))]) (λ_=>[]) (λk=>k<=J l/\∀j,j<k->l[j]? ≠some x) (λk=>J l - k) (0) ⟨ay _,λj hj=>by omega⟩ ?_;rintro k ⟨hk,hno⟩;refine Ul ?_ ?_<;>intro hc2
 .simp only[ah]at hc2;have hkl:k<J l:=O;obtain⟨ad,rfl⟩:=h.some_ O;have hy:l[k]? =some (l[k]'hkl):=aj hkl;obtain⟨y,hyy⟩:=Uk (l[k]'hkl);rw[hyy]at hy;refine oQ ?_;refine BR ?_;refine dW (bL ir ne) (dG h (bX hy)) I (Vs ?_ ?_)<;>intro hc4
  .have e:=gO hc4;refine fo ?_;refine VW ?_;exact⟨⟨_,I,by rw[ak (show(0:Int)<=(k:Int) by omega),List.contains_eq_mem,ak (e▸az hy)]⟩,rfl⟩
  refine fZ ?_;refine Vo (k+1) ⟨⟨by omega,λj hj=>by rcases Nat.lt_or_ge j k with h1|h1;exact hno j h1;obtain rfl:j=k:=O;rw[hy];intro e;exact ne_of_beq_false hc4 (aG e).symm⟩,by omega⟩
 simp only[aa]at hc2;have hnm:l.contains x=false:=(by rw[List.contains_eq_mem,aa];intro hm;obtain⟨j,hj,e⟩:=List.getElem_of_mem hm;exact hno j O (by rw[aj hj,e]));refine nR ?_;exact⟨⟨_,I,by rw[hnm];rfl⟩,rfl⟩
theorem pB(A:Oa)(c:Nat)(l:Li)(x:Int)(w:World)(h:Rd w .i64 A (J l) c l):CW prog 173 [.slice A (J l) c,.i x] w (.bool (l.contains x)):=by
 refine UB func173 ntmps173 ?_;refine UE ?_;refine UW (λw hi=>Px A c l x w (UJ.SS h hi)) ?_;exact Wx79_
end
variable{w:World}
variable{w0:World}{S:List Nat}{cs:List bH}
variable{e sz c:Nat}{ad:Addr}{xs vs:List Value}
theorem zP{b:Nat}(hc:UQ cs (slv e sz (some ad) n c xs))(hv:∀j v,vs[j]? =some v->xs[b+j]? =some v):∀w,Inv w0 S cs w->cells (eX (ad.add b) 0 vs) w:=λw hi=>
 ln λj v hj=>by
  rw[Nat.add_zero];exact(de (hi.get hc)).at_ ad I (b+j) v (hv j v hj)
theorem oq{j:Nat}{v:Value}(h:∀w',cX S w0 w'->UJ w' 1 (some ad) n c xs)(hv:xs[j]? =some v):∀w,Inv w0 S cs w->cells [(ad.add (j*1),v)] w:=λw hi z hz=>by
 rw[aQ]at hz;subst hz;rw[Nat.mul_one];exact(h w hi.S1).at_ ad I j v hv
theorem EC{j bb:Nat}{v:Value}(hc:UQ cs (slv e sz (sA bb) n c xs))(hv:xs[j]? =some v):∀w,Inv w0 S cs w->cells [(⟨bb,j,none⟩,v)] w:=λw hi z hz=>by
 rw[aQ]at hz;subst hz;have:=(hi.rd hc).at_ _ I j v hv;rw[Addr.add_lit,bA]at this;exact this
theorem xP{α:Type}{p:List α->Prop}(h0:p [])(hs:∀l x,p l->p (l++[x]))(l:List α):p l:=by
 have h:∀m:List α,p m.reverse:=λm=>by
  induction m with
  |nil=>exact h0
  |cons x m ih=>grind
 have:=h l.reverse
 grind
def fu(k:Int)(code:List II)(s:Sd):Int×List II×Sd:=
 match s.l.getLast? with
 |some n=>(n,code,⟨s.l.dropLast,s.SK,s.high⟩)
 |none=>(J code,code++[⟨k,J code,0,0,V9 .u32 s.SK⟩],⟨[],s.SK+1,s.high⟩)
def Sd.put(s:Sd)(l:Li):Sd:=⟨s.l++l,s.SK,s.high⟩
def Lw.SH(w:Lw):Int×Lw:=((fu 1 w.code w.d).1,⟨(fu 1 w.code w.d).2.1,(fu 1 w.code w.d).2.2,w.r,w.flags,w.target,w.branch⟩)
def Lw.Tt(w:Lw)(l:Li):Lw:=⟨w.code,w.d.put l,w.r,w.flags,w.target,w.branch⟩
def Lw.TX(w:Lw)(l:Li):Lw:=⟨w.code,w.d,w.r.put l,w.flags,w.target,w.branch⟩
def lw(D R V:Li)(x:II):Int:=
 bif x.op==0 then x.imm else bif x.op==1 then D.getD (J D - 1 - x.imm.toNat) 0 else bif x.op==2 then R.getD (J R - 1 - x.imm.toNat) 0 else
 bif x.op==3 then(gP x.imm (V.getD x.a.toNat 0) (V.getD x.b.toNat 0)).1 else(gP x.imm (V.getD x.a.toNat 0) (V.getD x.b.toNat 0)).2.1
def Th(D R:Li)(code:List II):List Int:=code.foldl (λV x=>V++[lw D R V x]) []
section
variable{D R:Li}
theorem lN(code:List II)(x:II):Th D R (code++[x])=Th D R code++[lw D R (Th D R code) x]:=by simp[Th]
theorem s8(code:List II):J (Th D R code)=J code:=by
 refine xP (p:=λcode=>J (Th D R code)=J code) I (λl x ih=>?_) code
 grind [lN]
theorem En(c e:List II):∃m,Th D R (c++e)=Th D R c++m:=by
 refine xP (p:=λe=>∃m,Th D R (c++e)=Th D R c++m) ⟨[],by simp⟩ (λl x ih=>?_) e
 grind [lN]
def eB(D R:Li)(code:List II)(n:Int):Int:=(Th D R code).getD n.toNat 0
theorem g9{c e:List II}{n:Int}(h:II.in_ n c):eB D R (c++e) n=eB D R c n:=by
 obtain⟨m,hm⟩:=En (D:=D) (R:=R) c e;have hl:=s8 (D:=D) (R:=R) c;have h2:n.toNat<J (Th D R c):=by have:=h.1;have:=h.2;omega
 grind [eB]
theorem kv(c:List II)(x:II):eB D R (c++[x]) (J c)=lw D R (Th D R c) x:=by
 grind [eB,lN,s8]
variable{code:List II}
def FL(D R:Li)(f0:Int)(w:Lw)(f:Int):Prop:=w.flags= -1/\f=f0\/II.in_ w.flags w.code/\f=eB D R w.code w.flags
end
def rF(D R:Li)(w:Lw)(op nn nx f:Int):Int:=
 bif(cZ w.branch f).1 then V9 .u32 (nx+jC nn)else bif w.target== -1 then(bif op==32||op==38 then V9 .u32 (nx+jC nn)else nx)else eB D R w.code w.target
section
variable{D R:Li}{op nn:Int}{w w':Lw}
theorem tG{nx f:Int}(hb:w'.branch=0)(ht:w'.target= -1)(h:(op==32||op==38)=false):rF D R w' op nn nx f=nx:=by
 unfold rF;rw[hb,ht,h];rfl
theorem J8(w:Lw):w.d.SK<=w.SH.2.d.SK:=by
 show w.d.SK<=(fu 1 w.code w.d).2.2.SK
 grind [fu]
variable{x:Int}
theorem Fz{c:List II}{a b y:Int}(k6:eB D R c a=x)(k4:eB D R c b=y):eB D R (c++[⟨4,J c,a,b,op⟩]) (J c)=(gP op x y).2.1:=by
 rw[kv,<-k6,<-k4];rfl
theorem alu_new{c:List II}{a b y:Int}(k6:eB D R c a=x)(k4:eB D R c b=y):eB D R (c++[⟨3,J c,a,b,op⟩]) (J c)=(gP op x y).1:=by
 rw[kv,<-k6,<-k4];rfl
end
end Go.Ink
namespace Go.Ink
open List renaming length→J
open IntKind renaming wrap→V9
open Go.RowKit Go.Proofs.Tryz
variable{op:Int}
theorem qv(l:Li)(h:cw op=0):dH (op::l)=none:=by
 have e:(cw op==0)=true:=by rw[h];rfl
 show(bif cw op==0 then none else _)=none;rw[e]
 rfl
theorem oZ{l:Li}(h:(J l:Int)+1<cw op):dH (op::l)=none:=by
 unfold dH;simp only[ak h,ae,Bool.cond_self]
variable{z:Nat}
theorem mG{l:Li}(h0:cw op=((z+1:Nat):Int))(h:z<=J l):dH (op::l)=some ((op,sE (l.take z)),z+1):=by
 have e1:(cw op==0)=false:=by rw[h0,bE];omega
 have e2:decide ((J l:Int)+1<cw op)=false:=ao (by rw[h0];omega)
 show(bif cw op==0 then none else bif decide ((J l:Int)+1<cw op)then none else some ((op,sE (l.take ((cw op).toNat - 1))),(cw op).toNat))=_;rw[e1,ac,e2,ac,h0]
 rfl
variable{k:Nat}
section
attribute [local irreducible] UL bM
variable{n:Nat}{M:Uy}{p:Nat}
theorem w8(h:n<=p/64):dI n M p=none:=by
 unfold dI;rw[ao O]
 rfl
theorem w9(h:p/64<n):dI n M p=dH (((M.data.drop (p/64*64)).take 64).drop (p%64)):=by
 unfold dI;rw[ak h]
 rfl
theorem cut64{w:World}{b j:Nat}{X:Li}(h:Rd w .u8 (sA b) 64 64 X)(hj:j<64)(hX:J X=64):Rd w .u8 (some ⟨b,j,none⟩) (64 - j) (64 - j) (X.drop j):=by
 have h5:=UJ.cut h (lo:=j) (hi:=64) O (aL _);rw[if_neg O,Option.map_some,Addr.add_lit,bA,Nat.mul_one]at h5;have e:(ints .u8 X).take 64=ints .u8 X:=List.take_of_length_le (by simp[ints,hX]);rw[e]at h5;have e2:(ints .u8 X).drop j=ints .u8 (X.drop j):=by simp[ints]
 rwa[e2]at h5
abbrev qy(b:we)(X:eN):List Value:=b.s.cells (.slice X.Ad (J b.s.d) X.cd) (.slice X.Ar (J b.s.r) X.cr)++[.w b.place,.bool b.runs]
theorem Kr(op nn:Int)(r:Wn)(X:eN)(Ap:Oa)(cp:Nat)(SR was:Int)(hpc:u32 r.s.pc)(hw:u32 was)(w:World)(h:Rd w .i64 Ap (J r.SC) cp r.SC):
  CW prog 150 [.agg #[.i op,.w nn],.agg (ic r X Ap cp).toArray,.i SR,.w was] w (.bool (iY op r SR was)):=by
 have HC:=pB Ap cp r.SC SR;have hq:∀x:Int,u32 x->V9 .u32 (x.tdiv 64)=x/64:=λx hx=>by obtain⟨h1,h2⟩:=hx;rw[bj h1,u32_wrap_id _ O O]
 refine UB func150 ntmps150 ?_;refine py ?_;refine ZO λb4=>?_;refine ZO λb5=>?_
 refine UG ?_;refine UD (λw hi=>yM op w) ?_;refine vY ?_;refine dx (bU I I) (.cons (cU I) (.cons (cU I) .nil)) (λ_ _=>I) (λhg w hi=>HC w (UJ.SS h hi)) I (Vs ?_ ?_)<;>intro hc1
 .refine vE ?_;exact⟨by unfold iY;rw[hc1];rfl,rfl⟩
 refine Ux ?_;refine Zy (jW (Zv I) (Zv I) O (hq _ hpc)) ?_;refine ZA ?_;refine Zy (jW (Zv I) (Zv I) O (hq _ hw)) ?_;refine Uu ?_;refine VW ?_;exact⟨by unfold iY;rw[hc1];rfl,rfl⟩
theorem wP{b:Nat}:∀{m k x:Nat},kE b k m=some x->x<k+m
 |0,_,_,h=>by cases h
 |m+1,k,x,h=>by
  unfold kE at h;cases hc:(b/2^k%2==1)with
  |true=>rw[hc,ae]at h;obtain rfl:=aG h;omega
  |false=>rw[hc,ac]at h;have:=wP h;omega
variable{x:Nat}
theorem RR{b:Nat}(h:jy b=some x):x<8:=by have:=wP h;omega
variable{m:Int}
variable{s:St}{U:Uo}{d:Un}
theorem Et(hx:bits .and .u32 d.SU d.mask=(x:Int))(ho:jy x=some k)(hie:s.ie=true):told s d=s.SL ((16+k:Nat):Int) 0:=by
 unfold told Pt;rw[hx,aP,ho];show(bif s.ie then _ else _)=_;rw[hie]
 rfl
theorem Jh(hx:bits .and .u32 d.SU d.mask=(x:Int))(h:((jy x).isSome&&s.ie)=false):told s d=s:=by
 unfold told Pt;rw[hx,aP];cases ho:jy x with
 |none=>rfl
 |some k=>
  rw[ho]at h;show(bif s.ie then _ else _)=_;cases hie:s.ie with
  |true=>rw[hie]at h;cases h
  |false=>rfl
section
variable{n:Nat}{op nn:Int}{d:Un}{M:Uy}
theorem vW(h:d.lines)(k:Int)(v:Nat):(bQ n M d k v).2.2.lines:=by
 have hz:0<=bits .and .u32 (v:Int) 255/\bits .and .u32 (v:Int) 255<=255:=by
  obtain⟨x,hx,hlt⟩:=MH (p:=(v:Int)) (m:=255) ⟨by decide,by decide⟩;omega
 unfold bQ df;refine bJ (λq:Bool×Uy×Un=>q.2.2.lines) ⟨h.mask⟩ ?_;refine bJ (λq:Bool×Uy×Un=>q.2.2.lines) ⟨hz⟩ ?_;refine Wq167 ?_;refine bJ (λq:Bool×Uy×Un=>q.2.2.lines) ⟨h.mask⟩ ?_;refine bJ (λq:Bool×Uy×Un=>q.2.2.lines) ⟨h.mask⟩ ?_
 repeat (refine bJ (λq:Bool×Uy×Un=>q.2.2.lines) h ?_)
 exact h
theorem yU(h:d.lines)(k count:Int):(cz d k count).2.lines:=by
 unfold cz
 repeat (first|exact h|refine bJ (λq:(Int×Bool)×Un=>q.2.lines) ?_ ?_|exact⟨h.mask⟩)
theorem nN{b:Li}(hb:UO b){op nn:Int}{z:Nat}(h:dH b=some ((op,nn),z)):u32 nn/\1<=z/\z<=5/\z<=J b:=by
 cases b with
 |nil=>cases h
 |cons o l=>
  have hc:cw o=0\/cw o=1\/cw o=2\/cw o=5:=iD o;unfold dH at h;cases h1:(cw o==0)with
  |true=>simp only[h1,ae]at h;cases h
  |false=>
   simp only[h1,ac]at h;cases h2:decide ((J l:Int)+1<cw o)with
   |true=>simp only[h2,ae]at h;cases h
   |false=>
    simp only[h2,ac,aW,aD]at h;obtain⟨⟨rfl,rfl⟩,rfl⟩:=h;have h1:=ne_of_beq_false h1;simp only[aa]at h2;obtain⟨r1,r2⟩:=tA (l:=l.take ((cw o).toNat - 1)) (λx hx=>hb x (bo _ (aX hx)));have hl:J (l.take ((cw o).toNat - 1))<=4:=by rw[aU];omega
    have hp:(256^J (l.take ((cw o).toNat - 1)):Nat)<=256^4:=Nat.pow_le_pow_right An hl;have e4:(256^4:Nat)=4294967296:=by decide
    refine⟨⟨r1,by omega⟩,by omega,by omega,?_⟩;rw[aE];omega
end
abbrev Wh(bu bb:Nat)(L:ez)(D:qK)(s:St)(X:eN)(Y:fv)(U:Uo)(d:Un):List bH:=UP s X.Ad X.cd::UU s X.Ar X.cr::Vq bu bb L D Y U d
variable{q:St×Uo×Un}
structure XS(U V:Uo):Prop where
 d:U.m.data=V.m.data
 t:U.t=V.t
theorem AD{M N:Uy}(h:M.data=N.data)(a:Nat)(v:Int):∀k,(M.SY a v k).data=(N.SY a v k).data
 |0=>h
 |k+1=>by
  show(M.SY a v k).data.set _ _=(N.SY a v k).data.set _ _;rw[AD h a v k]
section
variable{s:St}{d:Un}
structure Eqs(q q':St×Uo×Un):Prop where
 s:q.1=q'.1
 u:XS q.2.1 q'.2.1
 d:q.2.2=q'.2.2
end
end
end Go.Ink
namespace Go.Ink
open List renaming length→J
open IntKind renaming wrap→V9
open Go.RowKit
theorem ot(k:Int)(c:List II)(s:Sd):s.SK<=(fu k c s).2.2.SK/\(fu k c s).2.2.high=s.high:=by
 grind [fu]
theorem kj(w:Lw):jQ w w.SH.2:=⟨(ot 1 w.code w.d).1,Int.le_refl _,Int.le_of_eq (ot 1 w.code w.d).2.symm,Int.le_refl _⟩
variable{a:Nat}
variable{b:Nat}
section
variable{C l:List HI}{k:Nat}{R W:Li}{M:HM}{i:HI}
variable{j:Nat}
variable{v:Int}
theorem cY(hj:j<J R):(R.set j v).getD j 0=v:=by
  grind
theorem cJ{i:Nat}(h:i≠j):(R.set i v).getD j 0=R.getD j 0:=by
  grind
theorem kT.set(R:Li)(j:Nat)(v:Int){e:List Nat}(hj:j∈e):kT e R (R.set j v):=λi hi=>cJ (λh=>hi (h▸hj))
variable{rd:Nat}
theorem Uv.li(h:Uv C k (⟨1,(rd:Int),0,0,v⟩::l) R W M):Uv C (k+1) l (R.set rd v) W M:=
  h.on rfl (by simp[h.rl]) h.wl h.code.2.2
theorem Uv.op{op:Int}{rd ra rb:Nat}{v:Int}(h:Uv C k (⟨op,(rd:Int),(ra:Int),(rb:Int),0⟩::l) R W M)(h2:2<=op)(h13:op<=13)(hv:kJ op (R.getD ra 0) (R.getD rb 0)=v):Uv C (k+1) l (R.set rd v) W M:=by
  refine h.on ?_ (by simp[h.rl]) h.wl h.code.2.2;unfold V0
  grind [kJ,Int.toNat_natCast]
variable{ra:Nat}
theorem Uv.mov(h:Uv C k (⟨2,(rd:Int),(ra:Int),0,0⟩::l) R W M):Uv C (k+1) l (R.set rd (R.getD ra 0)) W M:=
  Uv.op (rb:=0) h An An rfl
theorem Uv.ld{p:Nat}{im:Int}(h:Uv C k (⟨14,(rd:Int),(ra:Int),0,im⟩::l) R W M)(hp:V9 .u64 (R.getD ra 0+im)=(p:Int))(hp2:p<256):Uv C (k+1) l (R.set rd (W.getD p 0)) W M:=by
  refine h.on ?_ (by simp[h.rl]) h.wl h.code.2.2;have e:qk R ⟨14,(rd:Int),(ra:Int),0,im⟩=(p:Int):=hp;unfold V0;dsimp only;rw[e,show decide ((J W:Int)<=(p:Int))=false from ao (by rw[h.wl];omega)]
  rfl
theorem Uv.st{rb p:Nat}{im:Int}(h:Uv C k (⟨15,0,(ra:Int),(rb:Int),im⟩::l) R W M)(hp:V9 .u64 (R.getD ra 0+im)=(p:Int))(hp2:p<256)(hv:V9 .u32 (R.getD rb 0)=v):Uv C (k+1) l R (W.set p v) M:=by
  refine h.on ?_ h.rl (by simp[h.wl]) h.code.2.2;have e:qk R ⟨15,0,(ra:Int),(rb:Int),im⟩=(p:Int):=hp;unfold V0;dsimp only;rw[e,show decide ((J W:Int)<=(p:Int))=false from ao (by rw[h.wl];omega)]
  grind
end
def sj(op:Int):Int:=bif op==16 then 3 else bif op==18 then 5 else bif op==19 then 6 else bif op==20 then 7 else bif op==21 then 8 else bif op==22 then 9 else bif op==23 then 10 else 4
def yu(op:Int):Bool:=op==18||op==19||op==20||op==22
def xm(op rd a b:Int):List HI:=⟨sj op,rd,a,b,0⟩::(bif yu op then[]else RT rd)
def fR(op a b:Int):List HI:=xm op 9 a b++(⟨13,10,9,15,0⟩::(ip 11 9++vX 11 1))
def mF(op a b:Int):List HI:=fR op a b++(bif op==16 then kN a b else bif op==17||op==25 then kM a b else[])
def vM(op x y:Int):Int:=bif op==25 then V9 .u32 (x - y)else(gP op x y).1
section
variable{C l:List HI}{k:Nat}{R W:Li}{M:HM}
variable{rd:Nat}
theorem Uv.low{z:Int}(h:Uv C k (RT rd++l) R W M)(hz:R.getD rd 0=V9 .u64 z)(hr:rd<12):∃k' R',Uv C k' l R' W M/\R'.getD rd 0=V9 .u32 z/\kT [rd,12] R R':=by
 have h1:=Uv.li (rd:=12) h;have hl:=h1.rl;have e1:(R.set 12 4294967295).getD rd 0=V9 .u64 z:=by rw[cJ O,hz]
 have e2:(R.set 12 4294967295).getD 12 0=4294967295:=cY Do;have h2:=Uv.op (rd:=rd) (ra:=rd) (rb:=12) (v:=V9 .u32 z) h1 An An (by rw[e1,e2];exact low64 z);refine⟨_,_,h2,cY O,?_⟩;exact Wx95_
variable{x y:Nat}
theorem tD{op:Int}(hop:(16<=op/\op<=23)\/op=25)(hx:x<4294967296)(hy:y<4294967296):∃r:Nat,vM op x y=r/\r<4294967296:=by
 have hw:∀z:Int,∃r:Nat,V9 .u32 z=r/\r<4294967296:=λz=>by
  rw[au];exact⟨(z%4294967296).toNat,by omega,by omega⟩
 have h:op=16\/op=17\/op=18\/op=19\/op=20\/op=21\/op=22\/op=23\/op=25:=by omega
 rcases h with rfl|rfl|rfl|rfl|rfl|rfl|rfl|rfl|rfl
 .exact hw _
 .exact hw _
 .exact⟨x&&&y,MK hx hy,tC hx⟩
 .exact⟨x|||y,or32 hx hy,Nat.or_lt_two_pow (n:=32) hx hy⟩
 .exact⟨x^^^y,Gd hx hy,iG hx hy⟩
 .show∃r:Nat,da (x:Int) (y:Int) true=r/\_;unfold da;cases decide (32<=(y:Int))with
  |true=>exact⟨0,I,by decide⟩
  |false=>exact hw _
 .show∃r:Nat,da (x:Int) (y:Int) false=r/\_;unfold da;cases decide (32<=(y:Int))with
  |true=>exact⟨0,I,by decide⟩
  |false=>
   refine⟨x/2^(min y IntKind.u32.bits),?_,Nat.lt_of_le_of_lt (Nat.div_le_self _ _) hx⟩
   grind
 .exact hw _
 exact hw _
theorem shl64:V9 .u32 ((x:Int)*2^(min ((y:Int)).toNat IntKind.u64.bits))=da (x:Int) (y:Int) true:=by
 unfold da;rw[aP];by_cases h:32<=y
 .rw[ak (show 32<=(y:Int) by omega)];show _=(0:Int);obtain⟨m,hm⟩:∃m,min y IntKind.u64.bits=32+m:=⟨min y IntKind.u64.bits - 32,by show min y 64=32+(min y 64 - 32);omega⟩
  grind [IntKind.wrap_u32,Int.pow_add,Int.mul_assoc,Int.mul_comm,Int.mul_emod_right]
 rw[ao (show¬32<=(y:Int) by omega)];show _=V9 .u32 ((x:Int)*2^(min y IntKind.u32.bits));exact Wx53_
theorem shr64(hx:x<4294967296):(x:Int).fdiv (2^(min ((y:Int)).toNat IntKind.u64.bits))=da (x:Int) (y:Int) false:=by
 unfold da;rw[aP];by_cases h:32<=y
 .rw[ak (show 32<=(y:Int) by omega)];show _=(0:Int);obtain⟨m,hm⟩:∃m,min y IntKind.u64.bits=32+m:=⟨min y IntKind.u64.bits - 32,by show min y 64=32+(min y 64 - 32);omega⟩;rw[hm,Int.fdiv_eq_ediv_of_nonneg _ Do];refine Int.ediv_eq_zero_of_lt O ?_;have h1:(2:Nat)^32<=2^(32+m):=Nat.pow_le_pow_right An O
  grind
 rw[ao (show¬32<=(y:Int) by omega)];show _=(x:Int).fdiv (2^(min y IntKind.u32.bits));exact Wx53_
variable{ra rb:Nat}
theorem Uv.alu{op:Int}(hop:(16<=op/\op<=23)\/op=25)(h:Uv C k (xm op rd ra rb++l) R W M)(hrd:rd<12)(hx:R.getD ra 0=x)(hy:R.getD rb 0=y)(hx2:x<4294967296)(hy2:y<4294967296):
  ∃k' R',Uv C k' l R' W M/\R'.getD rd 0=vM op x y/\kT [rd,12] R R':=by
 have hl:=h.rl;have hlow:∀(o:Int) (z:Int),2<=o->o<=13->Uv C k (⟨o,(rd:Int),(ra:Int),(rb:Int),0⟩::(RT rd++l)) R W M->kJ o x y=V9 .u64 z->
   ∃k' R',Uv C k' l R' W M/\R'.getD rd 0=V9 .u32 z/\kT [rd,12] R R':=λo z h1 h2 g hz=>by
  have g1:=Uv.op g h1 h2 (v:=V9 .u64 z) Do;obtain⟨k',R',g2,g3,g4⟩:=g1.low (cY O) hrd;exact⟨k',R',g2,g3,(kT.set R rd _ (e:=[rd,12]) cE).trans g4 Do⟩
 have hno:∀(o z:Int),2<=o->o<=13->Uv C k (⟨o,(rd:Int),(ra:Int),(rb:Int),0⟩::l) R W M->kJ o x y=z->∃k' R',Uv C k' l R' W M/\R'.getD rd 0=z/\kT [rd,12] R R':=λo z h1 h2 g hz=>
  ⟨_,_,Uv.op g h1 h2 (v:=z) Do,cY O,kT.set R rd _ cE⟩
 have h8:op=16\/op=17\/op=18\/op=19\/op=20\/op=21\/op=22\/op=23\/op=25:=by omega
 rcases h8 with rfl|rfl|rfl|rfl|rfl|rfl|rfl|rfl|rfl
 .exact hlow 3 _ An An h I
 .exact hlow 4 _ An An h I
 .exact hno 5 _ An An h (show bits .and .u64 (x:Int) (y:Int)=bits .and .u32 (x:Int) (y:Int) by grind [MJ,MK])
 .exact hno 6 _ An An h (show bits .or .u64 (x:Int) (y:Int)=bits .or .u32 (x:Int) (y:Int) by grind [or64,or32])
 .exact hno 7 _ An An h (show bits .xor .u64 (x:Int) (y:Int)=bits .xor .u32 (x:Int) (y:Int) by grind [Gc,Gd])
 .obtain⟨k',R',g1,g2,g3⟩:=hlow 8 _ An An h I;exact⟨k',R',g1,g2.trans shl64,g3⟩
 .exact hno 9 _ An An h (shr64 hx2)
 .exact hlow 10 _ An An h I
 exact hlow 4 _ An An h I
theorem Uv.bit{up s c s':Int}(h:Uv C k (vX 11 up++l) R W M)(hs:R.getD 10 0=s)(hc:R.getD 11 0=c)(h':bits .or .u64 s (V9 .u64 (c*2^(min up.toNat IntKind.u64.bits)))=s'):
  ∃k' R',Uv C k' l R' W M/\R'.getD 10 0=s'/\kT [10,11,12] R R':=by
 have hl:=h.rl;have h1:=Uv.li (rd:=12) h;have h2:=Uv.op (rd:=11) (ra:=11) (rb:=12) (v:=V9 .u64 (c*2^(min up.toNat IntKind.u64.bits))) h1 An An (by rw[cJ An,hc,cY O];rfl);have h3:=Uv.op (rd:=10) (ra:=10) (rb:=11) (v:=s') h2 An An (by rw[cJ An,cJ An,hs,cY Do];exact h');refine⟨_,_,h3,cY Do,?_⟩;exact((kT.set R 12 _ (e:=[10,11,12]) cE).trans (kT.set _ 11 _ (e:=[10,11,12]) cE) (e2:=[10,11,12]) Do).trans (kT.set _ 10 _ (e:=[10,11,12]) cE) Do
theorem Uv.signed{r:Nat}(h:Uv C k (ip rd r++l) R W M)(hrd:rd<12)(hr:r<12)(hx:R.getD r 0=x)(hx2:x<4294967296):∃k' R',Uv C k' l R' W M/\R'.getD rd 0=Va (decide (2147483648<=x))/\kT [rd,12] R R':=by
 have hl:=h.rl;have h1:=Uv.li (rd:=12) h;have h2:=Uv.op (rd:=rd) (ra:=r) (rb:=12) (v:=Va (decide (2147483648<=x))) h1 An An (by rw[cJ O,hx,cY O];exact shr31 hx2);refine⟨_,_,h2,cY Do,?_⟩;exact Wx95_
theorem jk{r:Nat}(hr:r<4294967296):dj (r:Int)=Va ((r:Int)==0)+2*Va (decide (2147483648<=r)):=by
 unfold dj;rw[Yd hr];cases(r:Int)==0<;>cases decide (2147483648<=r)<;>rfl
theorem vg(a b r o:Int)(p q c:Bool):mb a b r (Va p+2*Va q) c o=Va p+2*Va q+4*Va c+8*Va (o !=0):=by
 unfold mb;cases o !=0<;>cases p<;>cases q<;>cases c<;>rfl
theorem Uv.flagB{op:Int}(hop:(16<=op/\op<=23)\/op=25)(h:Uv C k (fR op ra rb++l) R W M)(h15:R.getD 15 0=0)(hx:R.getD ra 0=x)(hy:R.getD rb 0=y)(hx2:x<4294967296)(hy2:y<4294967296):
  ∃k' R' r,Uv C k' l R' W M/\vM op x y=(r:Nat)/\r<4294967296/\R'.getD 9 0=(r:Int)/\R'.getD 10 0=Va ((r:Int)==0)+2*Va (decide (2147483648<=r))/\kT [9,10,11,12] R R':=by
 obtain⟨r,hr,hr2⟩:=tD hop hx2 hy2;have h:Uv C k (xm op 9 ra rb++(⟨13,10,9,15,0⟩::(ip 11 9++(vX 11 1++l)))) R W M:=by
  have:fR op ra rb++l=xm op 9 ra rb++(⟨13,10,9,15,0⟩::(ip 11 9++(vX 11 1++l))):=by unfold fR;exact QD
  rwa[this]at h
 obtain⟨k1,R1,g1,g2,g3⟩:=Uv.alu (rd:=9) hop h An hx hy hx2 hy2;rw[hr]at g2;have g4:=Uv.op (rd:=10) (ra:=9) (rb:=15) (v:=Va ((r:Int)==0)) g1 An An (by rw[g2,g3 15 An,h15];rfl);obtain⟨k2,R2,p1,p2,p3⟩:=Uv.signed (rd:=11) (r:=9) (x:=r) g4 An An Do hr2;have e10:R2.getD 10 0=Va ((r:Int)==0):=by rw[p3 10 An,cY (by rw[g1.rl];decide)]
 obtain⟨k3,R3,q1,q2,q3⟩:=Uv.bit p1 e10 p2 (F1 ((r:Int)==0) (decide (2147483648<=r)) false false).1;have e9:R3.getD 9 0=(r:Int):=by rw[q3 9 An,p3 9 An,cJ An,g2]
 refine⟨k3,R3,r,q1,hr,hr2,e9,q2,?_⟩;intro j hj;simp only[aI,aV,or_false,not_or]at hj;rw[q3 j gW,p3 j gW,cJ O,g3 j gW]
theorem Uv.flagE{p q c:Bool}{u v:Nat}(h:Uv C k (gU++l) R W M)(h10:R.getD 10 0=Va p+2*Va q+4*Va c)(h11:R.getD 11 0=u)(h12:R.getD 12 0=v)(hu:u<4294967296)(hv:v<4294967296):
  ∃k' R',Uv C k' l R' W M/\R'.getD 10 0=Va p+2*Va q+4*Va c+8*Va (decide (2147483648<=u&&&v))/\kT [10,11,12] R R':=by
 have g1:=Uv.op (rd:=11) (ra:=11) (rb:=12) (v:=((u&&&v:Nat):Int)) (l:=ip 11 11++(vX 11 3++l)) (by
  have:gU++l=⟨5,11,11,12,0⟩::(ip 11 11++(vX 11 3++l)):=by unfold gU;exact QD
  rw[this]at h;exact h) An An (by rw[h11,h12];exact MJ O O)
 obtain⟨k2,R2,p1,p2,p3⟩:=Uv.signed (rd:=11) (r:=11) (x:=u&&&v) g1 An An (cY (by rw[h.rl];decide)) (tC hu);obtain⟨k3,R3,q1,q2,q3⟩:=Uv.bit p1 (show R2.getD 10 0=_ by rw[p3 10 An,cJ An,h10]) p2 (F1 p q c (decide (2147483648<=u&&&v))).2.2;refine⟨k3,R3,q1,q2,?_⟩;intro j hj;simp only[aI,aV,or_false,not_or]at hj;rw[q3 j gW,p3 j gW,cJ O]
theorem Uv.flag{op:Int}(hop:(16<=op/\op<=23)\/op=25)(h:Uv C k (mF op ra rb++l) R W M)(ha:ra<9)(hb:rb<9)(h15:R.getD 15 0=0)(hx:R.getD ra 0=x)(hy:R.getD rb 0=y)(hx2:x<4294967296)(hy2:y<4294967296):
  ∃k' R',Uv C k' l R' W M/\R'.getD 10 0=(gP op x y).2.1/\kT [9,10,11,12] R R':=by
 have h:Uv C k (fR op ra rb++((bif op==16 then kN ra rb else bif op==17||op==25 then kM ra rb else[])++l)) R W M:=by
  have:mF op ra rb++l=fR op ra rb++((bif op==16 then kN ra rb else bif op==17||op==25 then kM ra rb else[])++l):=by unfold mF;rw[aq]
  rwa[this]at h
 obtain⟨k1,R1,r,g1,g2,g3,g4,g5,g6⟩:=Uv.flagB hop h h15 hx hy hx2 hy2;have ex:R1.getD ra 0=x:=by rw[g6 ra gW,hx]
 have ey:R1.getD rb 0=y:=by rw[g6 rb gW,hy]
 have hsub:∀op',vM op' x y=(r:Nat)->vM op' x y=V9 .u32 ((x:Int) - y)->Uv C k1 (kM ra rb++l) R1 W M->∃k' R',Uv C k' l R' W M/\R'.getD 10 0=jV x y/\kT [9,10,11,12] R R':=λop' e1 e2 g=>by
  have g:Uv C k1 (⟨12,11,(ra:Int),(rb:Int),0⟩::(vX 11 2++(⟨7,11,(ra:Int),(rb:Int),0⟩::⟨7,12,(ra:Int),9,0⟩::(gU++l)))) R1 W M:=by
   have:kM ra rb++l=⟨12,11,(ra:Int),(rb:Int),0⟩::(vX 11 2++(⟨7,11,(ra:Int),(rb:Int),0⟩::⟨7,12,(ra:Int),9,0⟩::(gU++l))):=by unfold kM;exact QD
   rwa[this]at g
  have a1:=Uv.op (rd:=11) (ra:=ra) (rb:=rb) (v:=Va (decide ((x:Int)<y))) g An An (by rw[ex,ey];rfl);obtain⟨k2,R2,b1,b2,b3⟩:=Uv.bit a1 (show(R1.set 11 _).getD 10 0=_ by grind) (cY (by rw[g1.rl];decide)) (F1 ((r:Int)==0) (decide (2147483648<=r)) (decide ((x:Int)<y)) false).2.1;have c1:=Uv.op (rd:=11) (ra:=ra) (rb:=rb) (v:=((x^^^y:Nat):Int)) b1 An An (by rw[b3 ra gW,b3 rb gW,cJ O,cJ O,ex,ey];exact Gc O O);have c2:=Uv.op (rd:=12) (ra:=ra) (rb:=9) (v:=((x^^^r:Nat):Int)) c1 An An (by rw[cJ O,cJ An,b3 ra gW,b3 9 An,cJ O,cJ An,ex,g4];exact Gc O O);obtain⟨k3,R3,d1,d2,d3⟩:=Uv.flagE (p:=(r:Int)==0) (q:=decide (2147483648<=r)) (c:=decide ((x:Int)<y)) c2 Do (by simp[cJ,cY,b1.rl]) (cY (by simp[b1.rl])) (iG hx2 hy2) (iG hx2 g3);refine⟨k3,R3,d1,?_,?_⟩
  .rw[d2];unfold jV;rw[<-e2,e1,jk g3,vg,Gd hx2 hy2,Gd hx2 g3,MK (iG hx2 hy2) (iG hx2 g3),Yd (tC (iG hx2 hy2))]
  exact Wx68_
 have hno:∀op',vM op' x y=(r:Nat)->Uv C k1 l R1 W M->(gP op' x y).2.1=dj (vM op' x y)->∃k' R',Uv C k' l R' W M/\R'.getD 10 0=(gP op' x y).2.1/\kT [9,10,11,12] R R':=λop' e1 g e2=>
  ⟨k1,R1,g,by grind [jk],g6⟩
 have h8:op=16\/op=17\/op=18\/op=19\/op=20\/op=21\/op=22\/op=23\/op=25:=by omega
 rcases h8 with rfl|rfl|rfl|rfl|rfl|rfl|rfl|rfl|rfl
 .have g:Uv C k1 (⟨12,11,9,(ra:Int),0⟩::(vX 11 2++(⟨7,11,(ra:Int),9,0⟩::⟨7,12,(rb:Int),9,0⟩::(gU++l)))) R1 W M:=by
   have:kN ra rb++l=⟨12,11,9,(ra:Int),0⟩::(vX 11 2++(⟨7,11,(ra:Int),9,0⟩::⟨7,12,(rb:Int),9,0⟩::(gU++l))):=by unfold kN;exact QD
   have g1:Uv C k1 (kN ra rb++l) R1 W M:=g1;rwa[this]at g1
  have a1:=Uv.op (rd:=11) (ra:=9) (rb:=ra) (v:=Va (decide ((r:Int)<x))) g An An (by rw[ex,g4];rfl);obtain⟨k2,R2,b1,b2,b3⟩:=Uv.bit a1 (show(R1.set 11 _).getD 10 0=_ by grind) (cY (by rw[g1.rl];decide)) (F1 ((r:Int)==0) (decide (2147483648<=r)) (decide ((r:Int)<x)) false).2.1;have c1:=Uv.op (rd:=11) (ra:=ra) (rb:=9) (v:=((x^^^r:Nat):Int)) b1 An An (by rw[b3 ra gW,b3 9 An,cJ O,cJ An,ex,g4];exact Gc O O);have c2:=Uv.op (rd:=12) (ra:=rb) (rb:=9) (v:=((y^^^r:Nat):Int)) c1 An An (by rw[cJ O,cJ An,b3 rb gW,b3 9 An,cJ O,cJ An,ey,g4];exact Gc O O);obtain⟨k3,R3,d1,d2,d3⟩:=Uv.flagE (p:=(r:Int)==0) (q:=decide (2147483648<=r)) (c:=decide ((r:Int)<x)) c2 Do (by simp[cJ,cY,b1.rl]) (cY (by simp[b1.rl])) (iG hx2 g3) (iG hy2 g3);refine⟨k3,R3,d1,?_,?_⟩
  .rw[d2];show _=nK x y;unfold nK;have e2:V9 .u32 ((x:Int)+y)=(r:Int):=g2;rw[e2,jk g3,vg,Gd hx2 g3,Gd hy2 g3,MK (iG hx2 g3) (iG hy2 g3),Yd (tC (iG hx2 g3))]
  exact Wx68_
 .exact hsub 17 g2 I g1
 .exact hno 18 g2 g1 I
 .exact hno 19 g2 g1 I
 .exact hno 20 g2 g1 I
 .exact hno 21 g2 g1 I
 .exact hno 22 g2 g1 I
 .exact hno 23 g2 g1 I
 exact hsub 25 g2 I g1
end
end Go.Ink
