/- Lemmas. -/
import Derived.Test.YtepfimeihngjoaaGreatDoorXah
import Derived.Test.YtepfimeihngjoaaGreatDoorXai
set_option linter.all false
set_option maxRecDepth 100000
set_option maxHeartbeats 4000000
namespace Go.Ink
open List renaming length→J, replicate→R9
open IntKind renaming wrap→V9
open Go.RowKit Go.Proofs.Tryz
section
attribute [local irreducible] Ve bN
theorem tset_ok(b:Nat)(t v:Int):CI prog 349 [.p b,.w v] [On b t] (λx cs=>x= .tuple #[]/\cs=[On b v]):=λw hi=>by
 refine Vb func349 ntmps349 hi ?_;refine UQ ?_;refine ZL ?_;exact WZ
theorem MT(b:Nat)(Ao:Oa)(co:Nat)(o:Li)(Ai:Oa)(ni ci:Nat)(x:Int)(ho:J o<=1000000000):CI prog 350 [.p b,.int .u8 x] [zP b Ao (J o) co Ai ni ci,b8 Ao co o] (λv cs=>∃Ao' co',v= .tuple #[]/\cs=[zP b Ao' (J (o++[x])) co' Ai ni ci,b8 Ao' co' (o++[x])]):=λw hi=>by
 refine Vb func350 ntmps350 hi ?_;refine US ?_;refine jQ ?_;rintro _ _ ⟨b10,rfl,rfl⟩;refine gS (cC (e:=5) (sz:=1) (bytes:=1) I I Za I I (λw hi=>hi.rd (UJ (slv 5 1 (sA b10) 1 1 [.int .u8 x]))) (jR I) (by simp only[maxLen];omega) O) rfl ?_;rintro _ _ ⟨A2,c2,rfl,rfl⟩;rw[show J o+1=J (o++[x]) by simp,show ints .u8 o++[Value.int .u8 x]=ints .u8 (o++[x])from cy o [x]];refine jO ?_;refine Zn (io (cs':=[row _ _ _,slv _ _ _ _ _ _]) (.inr I) Zu I ?_);exact⟨A2,c2,I,I⟩
theorem MS(A:Oa)(c:Nat)(x:Int)(xs:Li)(hl:J xs<=1000000000):CI prog 356 [.slice A (J (x::xs)) c,.i 0,.i 1] [b8 A c (x::xs)] (λv cs=>∃A' c',v= .slice A' (J xs) c'/\cs=[b8 A' c' xs]):=λw hi=>by
 have hrd0:=hi.rd (UJ (b8 A c (x::xs)));have hcap:=hrd0.cap;obtain⟨bb,rfl⟩:=dA (hi.get (UJ (b8 A c (x::xs)))) (by simp);simp only[aE]at hcap;have hxl:J (x::xs)=J xs+1:=rfl;obtain⟨q0,hq0⟩:=Do ((⟨bb,(if c=1 then 0 else 1),none⟩:Addr));have hq1:(some q0:Oa)=(if c=1 then some ⟨bb,0,none⟩else(some (⟨bb,0,none⟩:Addr)).map (·.add (1*1))):=by
  rw[<-hq0];split<;>rfl
 refine Vb func356 ntmps356 hi ?_;refine fR ?_;refine Zy (N3 (lo:=0) (hi:=1) (mx:=J (x::xs)) I ir (Zv I) (Zv I) (Zv I) (Zv I) (by omega) (by omega) (by omega)) ?_;refine eL ?_;refine lN ?_;refine eL ?_;refine bQ (Vg [6]) Zk (ZE 0 ?_);refine ZE 1 ?_;refine UY 2 I (fc 0 I ir (Zv I) (Zv I) (λ_=>by first|rfl|omega) (λ_=>by omega)) ?_;refine ZE 3 ?_;refine ZE 4 ?_;refine UY 5 I (EG (lo:=1) (hi:=J (x::xs)) (r:=q0) I ir (Zv I) (.inr ⟨_,_,I,(Zv I)⟩) (.inl ⟨I,I⟩) (by simp) (by simpa using hcap) hq1) ?_;refine cP 6 Zk (jm I I (J9 (e:=5) (bytes:=1) I (by omega) rfl Za rfl rfl (λw hi=>(by have h5:=(hi.rd (UJ (b8 (sA bb) c (x::xs)))).cut (lo:=1) (hi:=J (x::xs)) (by simp) (aK _);rw[<-hq1]at h5;exact h5)) (by rw[i7,nO];exact cR) (by omega)) ZJ rfl ?_);refine UR ?_;rw[show 0+(J (x::xs) - 1)=J xs by simp,show(ints .u8 (x::xs)).take 0++((ints .u8 (x::xs)).take (J (x::xs))).drop 1=ints .u8 xs from by(simp[ints];exact List.take_of_length_le (by simp))];refine ZE 7 ?_;refine fh ?_;refine US ?_;refine Zy (lb (sz:=1) (lo:=J xs) (hi:=J (x::xs)) (r:=J xs) I ir (Zv I) (.inr ⟨_,_,I,(Zv I)⟩) (.inr ⟨_,_,I,(Zv I)⟩) (by omega) (by omega) (by omega) (by omega)) ?_;refine eA (t_clear I Za I ir I I (aK _) (by simp only[aE];omega)) ?_;refine UR ?_;refine U8 ?_;exact Nq
theorem Qw(b:Nat)(Ao:Oa)(no co:Nat)(Ai:Oa)(ci:Nat)(inp:Li)(hl:J inp<=1000000000):CI prog 347 [.p b] [zP b Ao no co Ai (J inp) ci,b8 Ai ci inp] (λv cs=>∃Ai' ci',v= .int .u8 (gB inp 0)/\cs=[b8 Ai' ci' inp.tail,zP b Ao no co Ai' (J inp.tail) ci']):=λw hi=>by
 cases inp with
 |nil=>
  refine Vb func347 ntmps347 hi ?_;refine oO ?_;refine iS ?_;refine US ?_;refine bK [b8 Ai ci [],zP b Ao no co Ai 0 ci] Zj (VA ([slv _ _ _ _ _ _,row _ _ _]) ?_);exact pP
 |cons x xs=>
  have hxl:J (x::xs)=J xs+1:=rfl;have hc1':((J (x::xs):Int)==0)=false:=by rw[bF];simp only[aE];omega
  obtain⟨bb,rfl⟩:=dA (hi.get (UJ (b8 Ai ci (x::xs)))) cJ;refine Vb func347 ntmps347 hi ?_;refine oO ?_;refine cK I (hc1') (Va ?_);refine Zy (cn (j:=0) (sz:=1) (r:=0) I ir (Zv I) (Zv I) UL UL O) ?_;refine dZ (bO ir py) (da (xs:=ints .u8 (x::xs)) Zh I) I (eL ?_);refine dH ([b8 (sA bb) ci (x::xs)]) (λw hi hin=>MS (sA bb) ci x xs (by simp only[aE]at hl;omega) w hin) ?_;rintro _ _ ⟨A2,c2,rfl,rfl⟩;refine jO ?_;refine U8 ?_;refine VA ([slv _ _ _ _ _ _,row _ _ _]) ?_;exact pP
theorem IH(D:qV)(bm:Nat)(X:dJ)(d:UF)(hd:d.wf)(a:Nat)(count:Int):CI prog 322 [.p D.bs,.w a,.int .u64 count] (my D bm X d) (λv cs=>∃X',v= .tuple #[.w (cE d (je a) count).1.1,.bool (cE d (je a) count).1.2]/\cs=my D bm X' (cE d (je a) count).2):=λw hi=>by
 have hinp:=hd.inp;have hgb:V9 .u32 (gB d.inp 0)=gB d.inp 0:=by have:=fW hd.Uo 0;exact u32_wrap_id _ O O
 obtain⟨k,hk⟩:=Do (je a);rw[hk];unfold je at hk;refine Vb func322 ntmps322 hi ?_;refine eL ?_;refine Zy (ez py py hk) ?_;refine Wc ?_ ?_<;>intro hc2
 .refine UU ?_;refine UZ (λw hi=>rz D.bi d.S7 d.mask w (hi.get Zh)) ?_;refine US ?_;refine I8 ?_;refine⟨X,?_,?_⟩
  .exact tB
  exact tB
 refine UH ?_ ?_<;>intro hc4
 .refine UU ?_;refine UZ (λw hi=>D1 D.bi d.S7 d.mask w (hi.get Zh)) ?_;refine US ?_;refine I8 ?_;refine⟨X,?_,?_⟩
  .exact tB
  exact tB
 refine UH ?_ ?_<;>intro hc6
 .refine UU ?_;refine UZ (λw hi=>EV D.bti d.timer w (hi.get Zh)) ?_;refine US ?_;refine I8 ?_;refine⟨X,?_,?_⟩
  .exact tB
  exact tB
 refine UH ?_ ?_<;>intro hc8
 .refine UN ?_;refine mU ?_;refine US ?_;refine I8 ?_;refine⟨X,?_,?_⟩
  .exact tB
  exact tB
 refine VJ ?_ ?_<;>intro hc10
 .refine Eu ?_;refine U8 ?_;refine I8 ?_;refine⟨X,?_,?_⟩
  .exact tB
  exact tB
 refine Wh ?_ ?_<;>intro hc11
 .refine U8 ?_;refine I8 ?_;refine⟨X,?_,?_⟩
  .exact tB
  exact tB
 refine UH ?_ ?_<;>intro hc13
 .refine UU ?_;refine dH ([zP D.bcn X.Ao (J d.out) X.co X.Ai (J d.inp) X.ci,b8 X.Ai X.ci d.inp]) (λw hi hin=>Qw D.bcn X.Ao (J d.out) X.co X.Ai X.ci d.inp hinp w hin) ?_;rintro _ _ ⟨Ai',ci',rfl,rfl⟩;refine Zy (cz I I (Zv I) (show V9 .u32 (gB d.inp 0)=gB d.inp 0 from hgb)) ?_;refine US ?_;refine bK (my D bm ⟨X.Ao,X.co,Ai',ci'⟩ {d with inp:=d.inp.tail}) Zj (I8 ?_);refine⟨⟨X.Ao,X.co,Ai',ci'⟩,?_,?_⟩
  .exact tB
  exact tB
 refine UH ?_ ?_<;>intro hc15
 .refine UU ?_;refine UZ (λw hi=>Cp D.bcn X.Ao (J d.out) X.co X.Ai (J d.inp) X.ci w (hi.get Zh)) ?_;refine CE ?_;refine US ?_;refine I8 ?_;refine⟨X,?_,?_⟩
  .exact tB
  exact tB
 refine UH ?_ ?_<;>intro hc17
 .refine mv ?_;refine I8 ?_;refine⟨X,?_,?_⟩
  .exact tB
  exact tB
 refine UH ?_ ?_<;>intro hc19
 .refine mv ?_;refine I8 ?_;refine⟨X,?_,?_⟩
  .exact tB
  exact tB
 refine UH ?_ ?_<;>intro hc21
 .refine mv ?_;refine I8 ?_;refine⟨X,?_,?_⟩
  .exact tB
  exact tB
 refine eL ?_;refine I8 ?_;refine⟨X,?_,?_⟩
 .exact tB
 exact tB
theorem Pd(op:Int)(w:World):UW prog 316 [.i op] w [] (λv cs=>(∃s,v= .string s/\(s.data.toList==[])= !zj op)/\cs=[]):=by
 refine UV func316 ntmps316 ?_;refine wn ?_;refine ZW ?_ ?_<;>intro hc2
 .exact VR
 refine UH ?_ ?_<;>intro hc4
 .exact VR
 refine UH ?_ ?_<;>intro hc6
 .exact VR
 refine UH ?_ ?_<;>intro hc8
 .exact VR
 refine UH ?_ ?_<;>intro hc10
 .exact VR
 refine UH ?_ ?_<;>intro hc12
 .exact VR
 refine UH ?_ ?_<;>intro hc14
 .exact VR
 refine UH ?_ ?_<;>intro hc16
 .exact VR
 refine UH ?_ ?_<;>intro hc18
 .exact VR
 refine UH ?_ ?_<;>intro hc20
 .exact VR
 refine UH ?_ ?_<;>intro hc22
 .exact VR
 refine UH ?_ ?_<;>intro hc24
 .exact VR
 refine UH ?_ ?_<;>intro hc26
 .exact VR
 refine UH ?_ ?_<;>intro hc28
 .exact VR
 refine UH ?_ ?_<;>intro hc30
 .exact VR
 refine UH ?_ ?_<;>intro hc32
 .exact VR
 refine UH ?_ ?_<;>intro hc34
 .exact VR
 refine UH ?_ ?_<;>intro hc36
 .exact VR
 refine UH ?_ ?_<;>intro hc38
 .exact VR
 refine UH ?_ ?_<;>intro hc40
 .exact VR
 refine UH ?_ ?_<;>intro hc42
 .exact VR
 refine UH ?_ ?_<;>intro hc44
 .exact VR
 refine jP ?_;refine⟨⟨_,I,?_⟩,I⟩;exact wq
theorem name_ok(op:Int)(w:World):UW prog 252 [.i op] w [] (λv cs=>(∃s,v= .string s/\(s.data.toList==[])= !u9 op)/\cs=[]):=by
 refine UV func252 ntmps252 ?_;refine wn ?_;refine ZW ?_ ?_<;>intro hc2
 .exact Wd
 refine UH ?_ ?_<;>intro hc4
 .exact Wd
 refine UH ?_ ?_<;>intro hc6
 .exact Wd
 refine UH ?_ ?_<;>intro hc8
 .exact Wd
 refine UH ?_ ?_<;>intro hc10
 .exact Wd
 refine UH ?_ ?_<;>intro hc12
 .exact Wd
 refine UH ?_ ?_<;>intro hc14
 .exact Wd
 refine UH ?_ ?_<;>intro hc16
 .exact Wd
 refine UH ?_ ?_<;>intro hc18
 .exact Wd
 refine UH ?_ ?_<;>intro hc20
 .exact Wd
 refine UH ?_ ?_<;>intro hc22
 .exact Wd
 refine UH ?_ ?_<;>intro hc24
 .exact Wd
 refine UH ?_ ?_<;>intro hc26
 .exact Wd
 refine UH ?_ ?_<;>intro hc28
 .exact Wd
 refine UH ?_ ?_<;>intro hc30
 .exact Wd
 refine UH ?_ ?_<;>intro hc32
 .exact Wd
 refine UH ?_ ?_<;>intro hc34
 .exact Wd
 refine UH ?_ ?_<;>intro hc36
 .exact Wd
 refine UU ?_;refine Vl (λw hi=>Pd op w) ?_;rintro _ _ ⟨⟨s,rfl,hs⟩,rfl⟩;refine UK ?_;have hz:=hs;refine Wl ?_;refine⟨⟨_,I,?_⟩,I⟩;rw[hs];simp only[u9, *,ah,ac]
theorem o3(K:Jp)(X:dz)(R:UG)(l:Li)(x:Int):CI prog 254 [.p K.br] (gU K X (R.wd (l++[x]))) (λv cs=>v= .w x/\cs=gU K X (R.wd l)):=λw hi=>by
 have hrd:=eO (hi.get (.tail _ (.head _ _)));have hcap:J (l++[x])<=X.cd:=hrd.cap;have hmax:=hrd.max;simp only[maxLen]at hmax;have hlen:J (l++[x])=J l+1:=by simp
 obtain⟨Ad,cd,Ar,cr⟩:=X;obtain⟨bd,rfl⟩:=dA (hi.get (.tail _ (.head _ _))) (show 0<J (l++[x]) by omega);have hcap:J (l++[x])<=cd:=hcap;have hdl:(R.wd (l++[x])).s.d.length=J l+1:=hlen;have hmax:cd<=_:=hmax;refine Vb func254 ntmps254 hi ?_;refine Rx ?_;refine Wq260 ?_;refine UN ?_;refine nX ?_;refine Ru ?_;refine tI ?_;exact fx
theorem jq(K:Jp)(X:dz)(R:UG)(A:Oa)(n c:Nat)(ys:Li)(hs:J R.s.d+n<=1000000)(w:World)(hi:Inv w (bM (gU K X R)) (gU K X R) w)(h:∀w',dc (bM (gU K X R)) w w'->Rd w' .u32 A n c ys):
  UW prog 253 [.p K.br,.slice A n c] w (gU K X R) (λv cs=>∃A' c',v= .tuple #[]/\cs=gU K ⟨A',c',X.Ar,X.cr⟩ (R.wd (R.s.d++ys))):=by
 have hl:n=J ys:=by have:=(h w (dc.refl _ _)).len;rw[dF]at this;omega
 subst hl;refine Vb func253 ntmps253 hi ?_;refine Va ?_;refine gS (cC (e:=32) (sz:=1) (bytes:=4) I I Za I I (λw hi=>h w hi.To) cR (by simp only[maxLen];omega) O) rfl ?_;rintro _ _ ⟨A',c',rfl,rfl⟩;refine UN ?_;refine ZL ?_;refine Zn (io (cs':=[row _ _ _,slv _ _ _ _ _ _,slv _ _ _ _ _ _]) (.inr I) Zu I ?_);exact⟨A',c',I,by simp only[gU,xt,Vf,Vj,ar,cy]⟩
theorem zJ(K:Jp)(X:dz)(R:UG)(SU addr:Int):CI prog 257 [.p K.br,.i SU,.w addr] (gU K X R) (λv cs=>v= .tuple #[]/\cs=gU K X (R.wt ⟨SU,addr⟩)):=λw hi=>by
 refine Vb func257 ntmps257 hi ?_;refine US ?_;refine eA (gb (n:=2) (vs:=[.i SU,.w addr]) ir I I (jR I) Za I I9) ?_;refine UR ?_;exact Wx79_
variable{R:UG}
def cu(n:Nat)(R:UG)(U:UI)(va:Nat)(kind:Int):NR:=
 bif((va%4:Nat):Int) !=0 then⟨0,false,R.wt ⟨6,va⟩,U⟩else
 ⟨(SR n U R.sp va kind).1.1,(SR n U R.sp va kind).1.2.SU==0,R.wdv (SR n U R.sp va kind).1.2 ((SR n U R.sp va kind).1.2.SU==0&&decide (32768<=(SR n U R.sp va kind).1.1)),(SR n U R.sp va kind).2⟩
theorem uM(K:Jp)(X:dz)(R:UG)(hr:0<=R.s.root)(w:World)(h:(xt K X R).ok w):
  CW prog 325 [.p K.br] w R.sp.v:=
 (OG K X R w h).mono λv cs ⟨h1,h2⟩=>⟨by rw[h1,UG.sp,Sp.v,Int.toNat_of_nonneg hr],h2⟩
theorem uo(n:Nat)(R:UG)(U:UI)(va:Nat)(kind:Int):(cu n R U va kind).r.s=R.s:=by unfold cu;exact bL (λW:NR=>W.r.s=R.s) I I
def gX(W:NR)(d:UF)(va:Nat)(v:Int)(o:Bool):eu:=⟨(bif !o then W.r.wt ⟨10,va⟩else W.r).push [v],W.u,d⟩
def eP(n:Nat)(R:UG)(U:UI)(d:UF)(va:Nat):eu:=
 bif !(cu n R U va 2).ok then⟨(cu n R U va 2).r,(cu n R U va 2).u,d⟩else
 bif(cu n R U va 2).r.device then gX (cu n R U va 2) (cE d (je (cu n R U va 2).p.toNat) (cu n R U va 2).r.count).2 va (cE d (je (cu n R U va 2).p.toNat) (cu n R U va 2).r.count).1.1 (cE d (je (cu n R U va 2).p.toNat) (cu n R U va 2).r.count).1.2
 else gX (cu n R U va 2) d va (iW n (cu n R U va 2).u.m (cu n R U va 2).p.toNat).1 (iW n (cu n R U va 2).u.m (cu n R U va 2).p.toNat).2
end
end Go.Ink
namespace Go.Ink
open List renaming length→J, replicate→R9
open IntKind renaming wrap→V9
open Go.RowKit Go.Proofs.Tryz
section
attribute [local irreducible] Ve bN
abbrev fv(bx bm:Nat)(T:List TE):bJ:=row bx (.p bm::dG T) 95
end
end Go.Ink
namespace Go.Ink
open List renaming length→J
open IntKind renaming wrap→V9
open Go.RowKit
variable{n:Nat}
variable{l:Li}
theorem UO.ok.put{n:Nat}{M:UO}(h:M.ok n)(a:Nat){b:Int}(hb:0<=b/\b<=255):(M.put a b).ok n:=
 ⟨by show(M.data.set _ _).length=_;simp[h.dl],u8s_set h.db hb,by show(M.SX.set _ _).length=_;simp[h.tl]⟩
theorem UO.ok.Tj{n:Nat}{M:UO}(h:M.ok n)(a:Nat)(v:Int):∀k,(M.Tj a v k).ok n
 |0=>h
 |k+1=>(UO.ok.Tj h a v k).put _ (kG v k)
theorem UO.ok.fill{n:Nat}{M:UO}(h:M.ok n)(a:Nat){l:Li}(hl:Vh l):∀k,(M.fill a l k).ok n
 |0=>h
 |k+1=>(UO.ok.fill h a hl k).put _ (fW hl k)
end Go.Ink
namespace Go.Ink
open List renaming length→J
open IntKind renaming wrap→V9
open Go.RowKit Go.Proofs.Tryz
section
attribute [local irreducible] Ve bN
variable{n x:Int}
structure AskR where
 n:Int
 v:Int
 At:Option Addr
 ct:Nat
 ts:List Int
 raw:Bool
 op:Int
 nn:Int
def AskR.cells(a:AskR):List Value:=[.i a.n,.w a.v,.slice a.At (J a.ts) a.ct,.bool a.raw,.i a.op,.w a.nn]
structure AskR.ok(W:World)(a:AskR):Prop where
 v:u32 a.v
 nn:u32 a.nn
 rd:Rd W .u32 a.At (J a.ts) a.ct a.ts
 ts:∀x,x∈a.ts->u32 x
def Sd.put(s:Sd)(l:Li):Sd:=⟨s.l++l,s.S2,s.high⟩
def Lw.TH(w:Lw)(l:Li):Lw:=⟨w.code,w.d.put l,w.r,w.flags,w.target,w.branch⟩
def Lw.Uk(w:Lw)(l:Li):Lw:=⟨w.code,w.d,w.r.put l,w.flags,w.target,w.branch⟩
def Lw.reckon(w:Lw)(op a b:Int):Lw:=
 let w1:=(w.add 4 a b op).wfl w.here
 bif op !=25 then(w1.add 3 a b op).TH [w1.here]else w1
def Lw.go(w:Lw)(op n next:Int):Lw:=
 bif op==1||op==2 then(w.add 0 0 0 n).TH [w.here]else
 bif op==3 then w.S0.2.TH [w.S0.1,w.S0.1]else
 bif op==4 then w.S0.2 else
 bif op==5 then w.S0.2.S0.2.TH [w.S0.1,w.S0.2.S0.1]else
 bif op==6 then w.S0.2.S0.2.TH [w.S0.2.S0.1,w.S0.1,w.S0.2.S0.1]else
 bif op==7 then w.S0.2.Uk [w.S0.1]else
 bif op==8 then w.Ty.2.TH [w.Ty.1]else
 bif decide (16<=op)&&decide (op<=25)then w.S0.2.S0.2.reckon op w.S0.2.S0.1 w.S0.1 else
 bif op==38 then(w.add 0 0 0 next).Uk [w.here]else
 bif op==39 then w.Ty.2.wtg w.Ty.1 else
 bif op==40 then w.S0.2.wtg w.S0.1 else
 bif decide (33<=op)&&decide (op<=37)then w.wbr op else w
def Lw.one(w:Lw)(op n next:Int):Lw:=(w.go op n next).S5
section
variable{D R:Li}
structure SI(D R D0:Li)(code:List II)(s:Sd)(t:Li):Prop where
 Uu:0<=s.S2
 Ut:s.S2<=(J D0:Int)
 eq:t=D0.take (J D0 - s.S2.toNat)++s.l.map (eE D R code)
 idx:∀n,n∈s.l->II.in_ n code
variable{D0:Li}{code:List II}{s:Sd}{t:Li}
theorem SI.app(h:SI D R D0 code s t)(e:List II):SI D R D0 (code++e) s t:=
 ⟨h.Uu,h.Ut,by rw[h.eq];congr 1;exact List.map_congr_left λn hn=>(iq (h.idx n hn)).symm,λn hn=>sH e (h.idx n hn)⟩
theorem SI.put{D0:Li}{code:List II}{s:Sd}{t:Li}(h:SI D R D0 code s t)(l:Li)(hl:∀n,n∈l->II.in_ n code):SI D R D0 code (s.put l) (t++l.map (eE D R code)):=
 ⟨h.Uu,h.Ut,by rw[h.eq];simp[Sd.put],λn hn=>by rcases aJ.1 hn with h1|h1;exact h.idx n h1;grind⟩
theorem SI.top{D0:Li}{code:List II}{s:Sd}{t:Li}(h:SI D R D0 code s t):SI D R D0 code s.top t:=⟨h.Uu,h.Ut,h.eq,h.idx⟩
theorem SI.len(h:SI D R D0 code s t):(J t:Int)=(J D0:Int) - s.S2+(J s.l:Int):=by
 have h1:=h.Uu;have h2:=h.Ut;rw[h.eq];simp;omega
structure LI(D R:Li)(w:Lw)(td tr:Li):Prop where
 d:SI D R D w.code w.d td
 r:SI D R R w.code w.r tr
variable{w:Lw}
theorem FL.app{f0 f:Int}{w':Lw}(h:FL D R f0 w f){e:List II}(hc:w'.code=w.code++e)(hf:w'.flags=w.flags):FL D R f0 w' f:=by
 rcases h with⟨h1,h2⟩|⟨h1,h2⟩
 .exact Or.inl ⟨by rw[hf,h1],h2⟩
 exact Or.inr ⟨by grind [sH],by grind [iq]⟩
variable{td tr:Li}
theorem LI.TH{w:Lw}{td tr:Li}(h:LI D R w td tr)(l:Li)(hl:∀n,n∈l->II.in_ n w.code):LI D R (w.TH l) (td++l.map (eE D R w.code)) tr:=⟨h.d.put l hl,h.r⟩
theorem LI.Uk{w:Lw}{td tr:Li}(h:LI D R w td tr)(l:Li)(hl:∀n,n∈l->II.in_ n w.code):LI D R (w.Uk l) td (tr++l.map (eE D R w.code)):=⟨h.d,h.r.put l hl⟩
theorem LI.add{w:Lw}{td tr:Li}(h:LI D R w td tr)(op a b imm:Int):LI D R (w.add op a b imm) td tr:=⟨h.d.app _,h.r.app _⟩
theorem LI.S5{w:Lw}{td tr:Li}(h:LI D R w td tr):LI D R w.S5 td tr:=⟨h.d.top,h.r.top⟩
end
end
end Go.Ink
namespace Go.Ink
open List renaming length→J, replicate→R9
open IntKind renaming wrap→V9
open Go.RowKit Go.Proofs.Tryz
structure Vc(n:Nat)(M:UO):Prop where
 m:M.ok n
 n1:1<=n
 n64:n<=64
 hi:∀j,n<=j->M.SX.getD j false=false
variable{i:Nat}{b:Bool}
theorem Vc.put{n:Nat}{M:UO}(h:Vc n M){a:Nat}(ha:a<n*64){b:Int}(hb:0<=b/\b<=255):Vc n (M.put a b):=
 ⟨h.m.put a hb,h.n1,h.n64,λj hj=>by
  show(M.SX.set (a/64) true).getD j false=false;rw[P7 O];exact h.hi j hj⟩
theorem Vc.Tj{n:Nat}{M:UO}(h:Vc n M){a:Nat}(v:Int):∀k,a+k<=n*64->Vc n (M.Tj a v k)
 |0,_=>h
 |k+1,hk=>(Vc.Tj h v k O).put O (kG v k)
variable{n:Nat}
section
attribute [local irreducible] Ve bN
theorem i4(K:gi)(n:Nat)(M:UO)(hM:Vc n M)(a:Nat)(ha:a<n*64)(b:Int):CI prog 63 [.p K.bm,.w a,.int .u8 b] (V6 K n M) (λv cs=>v= .tuple #[]/\cs=V6 K n (M.put a b)):=λw hi=>by
 have hn:=hM.n64;unfold UO.put V6;dsimp only;rw[J4];refine Vb func63 ntmps63 hi ?_;refine Va ?_;refine Zy (cn (j:=a) (sz:=1) (r:=a) I ir (Zv I) (Zv I) UL UL O) ?_;refine z4 ?_;refine UR ?_;rw[eK];refine Va ?_;refine Β ?_;refine Zy (cn (j:=(a/64)) (sz:=1) (r:=(a/64)) I ir (Zv I) (Zv I) UL UL O) ?_;refine z4 ?_;refine UR ?_;rw[wh];exact Wx79_
theorem mb(K:gi)(n:Nat)(hn:n<=64)(a k:Nat)(ha:a<=4294967295000)(hk:k<=1000)(w:World)(h:(AZ K n).ok w):
  CW prog 162 [.p K.bm,.int .u64 a,.i k] w (.bool (decide (a+k<=n*64))):=by
 refine UV func162 ntmps162 ?_;refine U8 ?_;refine IS ?_;refine Zy (dy (Zv I) (Zv I) (show _=((a+k:Nat):Int)from(u64_wrap_id _ O O).trans O)) ?_;refine UN ?_;refine I1 ?_;refine ZA ?_;refine IS ?_;refine Zy (y_leq (Zv I) (Zv I) (show _=decide (a+k<=n*64)from decide_eq_decide.2 O)) ?_;exact mZ
theorem pz(K:gi)(n:Nat)(M:UO)(hM:Vc n M)(a:Nat)(ha:a+4<=n*64)(w:World)(h:(AZ K n).ok w)(h2:(rmB K n M).ok w):
  CW prog 329 [.p K.bm,.int .u64 a] w (.w (lc M.data a)):=by
 have hn:=hM.n64;have hdl:=hM.m.dl;have hdb:=hM.m.db;have hr:Rd w .u8 (sA K.bB) (n*64) (n*64) M.data:=cY h2;have e:lc M.data a=_:=(word_or (fW hdb a) (fW hdb (a+1)) (fW hdb (a+2)) (fW hdb (a+3))).symm;rw[e];have b0:=fW hdb a;have b1:=fW hdb (a+1);have b2:=fW hdb (a+2);have b3:=fW hdb (a+3);refine UV func329 ntmps329 ?_;refine UU ?_;refine jf ?_;refine nZ ?_;refine ε ?_;refine UY 5 I (cZ (j:=a) I ir (Zv I) (Zv I) UL UL) ?_;refine Vn 6 I (bO ir (Zv I)) (dK hr (cw (tf (show a<J M.data by omega)))) ?_;refine UY 7 I (cz I I (Zv I) (u32_wrap_id _ O O)) ?_;refine ZE 8 ?_;refine ZE 9 ?_;refine UE 10 0 ?_;refine Vn 11 I (bO ir (Zv I)) (cW gQ I) ?_;refine ZE 12 ?_;refine UY 13 I (dy (Zv I) (Zv I) (show _=((a+1:Nat):Int)from(u64_wrap_id _ O O).trans O)) ?_;refine UY 14 I (cZ (j:=a+1) I ir (Zv I) (Zv I) UL UL) ?_;refine Vn 15 I (bO ir (Zv I)) (dK hr (cw (tf (show a+1<J M.data by omega)))) ?_;refine UY 16 I (cz I I (Zv I) (u32_wrap_id _ O O)) ?_;refine UY 17 I (pq (Zv I) (Zv I) O I) ?_;refine ZE 18 ?_;refine ZE 19 ?_;refine ZE 20 ?_;refine UE 21 0 ?_;refine Vn 22 I (bO ir (Zv I)) (cW gQ I) ?_;refine ZE 23 ?_;refine UY 24 I (dy (Zv I) (Zv I) (show _=((a+2:Nat):Int)from(u64_wrap_id _ O O).trans O)) ?_;refine UY 25 I (cZ (j:=a+2) I ir (Zv I) (Zv I) UL UL) ?_;refine Vn 26 I (bO ir (Zv I)) (dK hr (cw (tf (show a+2<J M.data by omega)))) ?_;refine UY 27 I (cz I I (Zv I) (u32_wrap_id _ O O)) ?_;refine UY 28 I (pq (Zv I) (Zv I) O I) ?_;refine ZE 29 ?_;refine ZE 30 ?_;refine ZE 31 ?_;refine UE 32 0 ?_;refine Vn 33 I (bO ir (Zv I)) (cW gQ I) ?_;refine ZE 34 ?_;refine UY 35 I (dy (Zv I) (Zv I) (show _=((a+3:Nat):Int)from(u64_wrap_id _ O O).trans O)) ?_;refine UY 36 I (cZ (j:=a+3) I ir (Zv I) (Zv I) UL UL) ?_;refine Vn 37 I (bO ir (Zv I)) (dK hr (cw (tf (show a+3<J M.data by omega)))) ?_;refine UY 38 I (cz I I (Zv I) (u32_wrap_id _ O O)) ?_;refine UY 39 I (pq (Zv I) (Zv I) O I) ?_;refine ZE 40 ?_;refine ZE 41 ?_;refine pk ?_;exact wQ
variable{k:Int}
variable{d:Li}{root va:Nat}
theorem PH(h:(decide ((16384:Int)<=(va:Int))|| !decide (Xw root va+4<=n*64))=true):iw n d root va=none:=by
 unfold iw iH;by_cases h1:16384<=va
 .rw[ap h1];rfl
 rw[ao h1];have h2:decide (Xw root va+4<=n*64)=false:=by simpa[show¬(16384:Int)<=va by omega]using h
 rw[h2]
 rfl
theorem Lt(h:(decide ((16384:Int)<=(va:Int))|| !decide (Xw root va+4<=n*64))=false):va<16384/\Xw root va+4<=n*64/\iw n d root va=rD n d va (lc d (Xw root va)):=by
 simp only[aZ,aa,Bool.not_eq_false',ai]at h;obtain⟨h1,h2⟩:=h;refine⟨by omega,h2,?_⟩;unfold iw iH;rw[ao O,ap h2]
 rfl
theorem PG{e:Int}(h:((e%2==0)|| !decide (Xt e va+4<=n*64))=true):rD n d va e=none:=by
 unfold rD iH;cases h1:(e%2==0)with
 |true=>rfl
 |false=>
  rw[h1]at h;have h2:decide (Xt e va+4<=n*64)=false:=by simpa using h
  rw[h2]
  rfl
theorem Ls{e:Int}(h:((e%2==0)|| !decide (Xt e va+4<=n*64))=false):Xt e va+4<=n*64/\rD n d va e=some (Xt e va,lc d (Xt e va)):=by
 simp only[aZ,Bool.not_eq_false',ai]at h;obtain⟨h1,h2⟩:=h;refine⟨h2,?_⟩;unfold rD iH;rw[h1,ap h2]
 rfl
theorem kw(v:Int){k:Nat}(hk:k<4):V9 .u8 (v.fdiv (2^(min ((8*k:Nat):Int).toNat IntKind.u32.bits)))=mC v k:=by
 rw[<-ur v hk];obtain rfl|rfl|rfl|rfl:k=0\/k=1\/k=2\/k=3:=by omega
 all_goals rfl
variable{x:Value}{T:List TE}
theorem Gj(e:TE)(h:i<J T):(x::dG T).take (1+i*4)++e.cells++(x::dG T).drop (1+i*4+4)=x::dG (T.set i e):=by
 rw[Nat.add_comm 1,List.take_succ_cons,show i*4+1+4=(i*4+4)+1 by omega,List.drop_succ_cons,aU,aU,lf e h]
theorem Qy{e:TE}(h:T[i]? =some e):((x::dG T).drop (1+i*4)).take 4=e.cells:=by
 rw[Nat.add_comm 1,List.drop_succ_cons];exact gK h
theorem uu(n:Nat)(M:UO)(root va:Nat)(kind:Int)(SQ:Bool):(dE n M root va kind SQ).1.2.SU=0->(dE n M root va kind SQ).1.2=Tr.none/\(dE n M root va kind SQ).1.1.valid=true/\(dE n M root va kind SQ).1.1.vpn=((va/64:Nat):Int):=by
 unfold dE;cases hf:(Vo kind==0)with
 |true=>intro h;cases h
 |false=>
  refine fE ?_;have hf':Vo kind≠0:=by simpa using hf
  cases iw n M.data root va with
  |none=>exact λh=>absurd h hf'
  |some q=>
   obtain⟨a,l⟩:=q;cases hb:(bits .and .u32 l (oP kind SQ) !=oP kind SQ)with
   |true=>simp only[hb,ah];exact λh=>absurd h hf'
   |false=>simp only[hb,ac];exact λ_=>by refine⟨?_,?_,?_⟩<;>first|rfl|trivial
theorem yx(n:Nat)(U:UI)(s:Sp)(va:Nat)(kind:Int):(SY n U s va kind).1.2.SU=0->(SY n U s va kind).1.2=Tr.none:=by
 have h:=uu n U.m s.root va kind s.SQ;unfold SY;refine bL (λq:(Int×Tr)×UI=>q.1.2.SU=0->q.1.2=Tr.none) ir ?_;refine bL (λq:(Int×Tr)×UI=>q.1.2.SU=0->q.1.2=Tr.none) ir ?_;exact bL (λq:(Int×Tr)×UI=>q.1.2.SU=0->q.1.2=Tr.none) (λe=>(h e).1) (λe=>(h e).1)
theorem gM(n:Nat)(U:UI)(s:Sp)(va:Nat)(kind:Int):(SR n U s va kind).1.2.SU=0->(SR n U s va kind).1.2=Tr.none:=by
 have h:=yx n U s va kind;unfold SR;refine bL (λq:(Int×Tr)×UI=>q.1.2.SU=0->q.1.2=Tr.none) (λe=>by cases e) ?_;refine bL (λq:(Int×Tr)×UI=>q.1.2.SU=0->q.1.2=Tr.none) h ?_;exact bL (λq:(Int×Tr)×UI=>q.1.2.SU=0->q.1.2=Tr.none) h (λe=>by cases e)
theorem Vc.SY{n:Nat}{U:UI}(h:Vc n U.m)(s:Sp)(va:Nat)(kind:Int)(hw:Vc n (dE n U.m s.root va kind s.SQ).2):Vc n (SY n U s va kind).2.m:=by
 unfold Go.Ink.SY;refine bL (λq:(Int×Tr)×UI=>Vc n q.2.m) h ?_;refine bL (λq:(Int×Tr)×UI=>Vc n q.2.m) h ?_;exact bL (λq:(Int×Tr)×UI=>Vc n q.2.m) hw hw
theorem Vc.SR{n:Nat}{U:UI}(h:Vc n U.m)(s:Sp)(va:Nat)(kind:Int)(hw:Vc n (dE n U.m s.root va kind s.SQ).2):Vc n (SR n U s va kind).2.m:=by
 have ht:=h.SY s va kind hw;unfold Go.Ink.SR;refine bL (λq:(Int×Tr)×UI=>Vc n q.2.m) h ?_;refine bL (λq:(Int×Tr)×UI=>Vc n q.2.m) ht ?_;exact bL (λq:(Int×Tr)×UI=>Vc n q.2.m) ht ht
theorem Hn(bx bm:Nat)(T:List TE)(hT:J T=16)(va:Nat)(hva:va<=4294967295)(kind:Int)(hk:1<=kind/\kind<=3)(SQ:Bool)(w:World)(h:(fv bx bm T).ok w):
  CW prog 207 [.p bx,.w va,.i kind,.bool SQ] w (.tuple #[.w (pu T va kind SQ).1,.bool (pu T va kind SQ).2]):=by
 have hlt:va/64%16<J T:=by omega
 have he:T[va/64%16]? =some (xl T va):=by simp[xl,hlt]
 obtain⟨e,hee⟩:=Do (xl T va);have h12:=want12 hk (SQ:=SQ);have h33:=want3 SQ;have hno:=H9 (e:=e) (va:=va) (QL hk SQ);obtain⟨wb,hwb⟩:=Do (oP kind SQ);have HB:=xz kind SQ;unfold pu;rw[hee]at he|-;rw[hwb]at HB h12;have h3k:kind=3->oP 3 SQ=wb:=λe=>by subst e;exact hwb
 have h3a:kind=3->(asked 3 SQ)=asked kind SQ:=λe=>by subst e;rfl
 obtain⟨⟨a,ab⟩,ha⟩:=Do (asked kind SQ);rw[ha]at h12 hno h3a|-;refine UV func207 ntmps207 ?_;refine eL ?_;refine Jn ?_;refine Zy (fG (Zv I) (Zv I) O (show _=((va/64%16:Nat):Int)from by rw[aq O];omega)) ?_;refine An ?_;refine κ ?_;refine dZ (bX (vs:=e.cells) ir ir py) (oE (o:=1+(va/64%16)*4) h (Qy he)) I ?_;refine ZN λb10=>?_
 refine jb ?_;refine UZ (λw hi=>HB w) ?_;refine sa ?_;refine UN ?_;refine cj (λ_:Unit=>[(0,.p bx),(1,.w (va:Int)),(2,.i kind),(10,.p b10),(11,.w a)]) (λ_=>[row b10 e.cells 92]) (λ_=>True) ?_ ?_
 .refine UH ?_ ?_<;>intro hc3
  .have hk3:kind=3:=(by simpa using hc3);have hh:=h33;rw[h3k hk3,h3a hk3]at hh;refine An ?_;refine Zy (yp py py hh) ?_;refine An ?_;refine Vd (()) gh
  have hh:=h12 hc3;dsimp only at hh;rw[hh];refine Zc (Vd (()) gh)
 rintro - -;refine eL ?_;refine WV I I (kf (cO I) (Zv I) O (show _=((va/64:Nat):Int)from by rw[bl O,u32_wrap_id _ O O];omega)) ?_;refine UK ?_;refine WV I I (GF (cO I) (Zv I) (ao O)) ?_;refine UN ?_;refine WV I I (N5 (cO I) (Zv I) (ao O)) ?_;refine yh ?_ ?_<;>intro hc5
 .have hc:kN e va (a,ab)=true:=hno.trans hc5;rw[hc];refine ix ?_;refine Va ?_;exact oW
 have hc:kN e va (a,ab)=false:=hno.trans hc5;rw[hc];refine fE ?_;refine UU ?_;refine RA ?_;refine kZ ?_;refine UQ ?_;exact oW
abbrev VD(K:gi)(bx n:Nat)(U:UI):List bJ:=fv bx K.bm U.t::V6 K n U.m
theorem Gh{v p:Nat}(h:oa n v (p:Int))(hn:n<=64):(decide ((32768:Int)<=(p:Int))&& !decide (p+1<=n*64))=iG (p:Int):=by
 cases hd:iG (p:Int)with
 |true=>
  unfold iG at hd;simp only[ay,ai]at hd;rw[ap hd.1,ao (show¬(p+1<=n*64) by omega)]
  rfl
 |false=>
  have:=pJ hd h;rw[ao (show¬((32768:Int)<=(p:Int)) by omega)]
  rfl
variable{a:Int}
theorem and255r{v:Int}(h:u32 v):bits .and .u32 v 255=v%256:=bits_mask .u32 32 ne wraps_u32 8 ne v h.1 (by have:=h.2;omega)
theorem Vc.fill{n:Nat}{M:UO}(h:Vc n M){a:Nat}{l:Li}(hl:Vh l):∀k,a+k<=n*64->Vc n (M.fill a l k)
 |0,_=>h
 |k+1,hk=>(Vc.fill h hl k O).put O (fW hl k)
theorem DE(b bm bd:Nat)(Z:dJ)(d:UF)(hd:d.wf)(a:Nat)(count:Int):CI prog 330 [.p b,.w a,.int .u64 count] (eI b bm bd Z d) (λv cs=>∃Z',v= .tuple #[.w (cE d (je a) count).1.1,.bool (cE d (je a) count).1.2]/\cs=eI b bm bd Z' (cE d (je a) count).2):=λw hi=>by
 have hinp:=hd.inp;have hinb:=hd.Uo;obtain⟨k,hk⟩:=Do (je a);rw[hk];unfold je at hk;obtain⟨pe,ma,ti,ou,inp,dk,se,pl,st⟩:=d;obtain⟨Ao,co,Ai,ci⟩:=Z;dsimp only at hinp hinb;refine Vb func330 ntmps330 hi ?_;refine eL ?_;refine Zy (ez py py hk) ?_;refine Wc ?_ ?_<;>intro hc2
 .refine mv ?_;refine IV ?_;refine⟨⟨Ao,co,Ai,ci⟩,?_,?_⟩
  .exact Vu
  exact Vu
 refine UH ?_ ?_<;>intro hc4
 .refine mv ?_;refine IV ?_;refine⟨⟨Ao,co,Ai,ci⟩,?_,?_⟩
  .exact Vu
  exact Vu
 refine UH ?_ ?_<;>intro hc6
 .refine mv ?_;refine IV ?_;refine⟨⟨Ao,co,Ai,ci⟩,?_,?_⟩
  .exact Vu
  exact Vu
 refine UH ?_ ?_<;>intro hc8
 .refine UN ?_;refine mU ?_;refine US ?_;refine IV ?_;refine⟨⟨Ao,co,Ai,ci⟩,?_,?_⟩
  .exact Vu
  exact Vu
 refine VJ ?_ ?_<;>intro hc10
 .refine Eu ?_;refine U8 ?_;refine IV ?_;refine⟨⟨Ao,co,Ai,ci⟩,?_,?_⟩
  .exact Vu
  exact Vu
 refine Wh ?_ ?_<;>intro hc11
 .refine U8 ?_;refine IV ?_;refine⟨⟨Ao,co,Ai,ci⟩,?_,?_⟩
  .exact Vu
  exact Vu
 refine UH ?_ ?_<;>intro hc13
 .refine yh ?_ ?_<;>intro hc14
  .obtain rfl:inp=[]:=List.eq_nil_of_length_eq_zero (by simpa using hc14);refine eL ?_;refine IV ?_;refine⟨⟨Ao,co,Ai,ci⟩,?_,?_⟩
   .exact Vu
   exact Vu
  obtain⟨x,xs,rfl⟩:∃x xs,inp=x::xs:=List.exists_cons_of_ne_nil (by intro e;subst e;simp at hc14);have hx:=hinb x cJ;have hl0:0<J (x::xs):=cJ;have hl1:0<(UF.mk pe ma ti ou (x::xs) dk se pl st).inp.length:=hl0;refine eC (λw hi=>OY (hi.get (UJ (Wo Ai (J (x::xs)) ci (ints .u8 (x::xs))))) cJ) (λhA=>?_);obtain⟨ad,rfl⟩:=hA;refine eC (λw hi=>(oZ (hi.get (UJ (Wo (some ad) (J (x::xs)) ci (ints .u8 (x::xs)))))).cap) (λhcap=>?_);obtain⟨q0,hq1⟩:∃q0:Addr,(some q0:Oa)=(if ci=1 then some ad else(some ad).map (·.add (1*1))):=(by split;exact⟨_,I⟩;exact⟨_,I⟩);simp only[aE]at hcap;refine Va ?_;refine Zy (cZ (j:=0) I ir (Zv I) (Zv I) UL UL) ?_;refine dZ (bO ir py) (OZ (xs:=ints .u8 (x::xs)) Zh I) I (eL ?_);refine Zy (EG (lo:=1) (hi:=J xs+1) (r:=q0) I ir (Zv I) (.inr ⟨_,_,I,(Zv I)⟩) (.inl ⟨I,I⟩) O O hq1) ?_;refine jO ?_;refine UQ ?_;refine Zy (cz I I (Zv I) (show _=gB (x::xs) 0 from u32_wrap_id x hx.1 O)) ?_;refine US ?_;refine Bs (c:=Wo (some ad) (J xs+1) ci (.int .u8 x::ints .u8 xs)) (c':=Wo (some q0) (J xs) (ci - 1) (ints .u8 xs)) Za (Bo (x:= .int .u8 x) (xs:=ints .u8 xs) hq1) (λw=>OX (x:= .int .u8 x) (xs:=ints .u8 xs) hq1 w) (bK (eI b bm bd ⟨Ao,co,some q0,ci - 1⟩ ⟨pe,ma,ti,ou,xs,dk,se,pl,st⟩) Zj (IV ?_));refine⟨⟨Ao,co,some q0,ci - 1⟩,?_,?_⟩
  .exact tB
  simp only[cE, *,ah,ac,List.tail_cons]
 refine UH ?_ ?_<;>intro hc19
 .refine US ?_;refine Zy (cz I I (Zv I) (u32_wrap_id (J inp:Int) O O)) ?_;refine US ?_;refine IV ?_;refine⟨⟨Ao,co,Ai,ci⟩,?_,?_⟩
  .exact Vu
  exact Vu
 refine UH ?_ ?_<;>intro hc21
 .refine mv ?_;refine IV ?_;refine⟨⟨Ao,co,Ai,ci⟩,?_,?_⟩
  .exact Vu
  exact Vu
 refine UH ?_ ?_<;>intro hc23
 .refine mv ?_;refine IV ?_;refine⟨⟨Ao,co,Ai,ci⟩,?_,?_⟩
  .exact Vu
  exact Vu
 refine UH ?_ ?_<;>intro hc25
 .refine mv ?_;refine IV ?_;refine⟨⟨Ao,co,Ai,ci⟩,?_,?_⟩
  .exact Vu
  exact Vu
 refine eL ?_;refine IV ?_;refine⟨⟨Ao,co,Ai,ci⟩,?_,?_⟩
 .exact Vu
 exact Vu
end
end Go.Ink
