/- Lemmas. -/
import Derived.Test.YtbkgmdgackknfaaGreatDoorPah
set_option linter.unusedSimpArgs false
set_option linter.unusedVariables false
set_option maxRecDepth 100000
set_option maxHeartbeats 4000000
namespace Go.Ink
open Go.RowKit Go.Proofs.Tryz
section
attribute [local irreducible] OpY bH
theorem Nx{n lo hi x:Int}(hx:gx n lo hi=x)(w:World)(h0:0<=lo)(h1:lo<=hi)(h2:hi<=1000000000000):Ctr prog 14 [.i n,.i lo,.i hi] w [] (λv cs=>v= .i x/\cs=[]):=hx▸fu n lo hi w h0 h1 h2
abbrev sO:List Int:=[1,1,1,2,3,4,5,6,7,8,16,17,18,19,20,21,22,23,24,25,32,33,34,35,36,37,38,39,40,48,49,50,51,52,53,64,65,66,67,68,0,69]
structure AskR where
 n:Int
 v:Int
 At:Option Addr
 ct:Nat
 ts:List Int
 raw:Bool
 op:Int
 nn:Int
def AskR.cells(a:AskR):List Value:=[.i a.n,.w a.v,.slice a.At a.ts.length a.ct,.bool a.raw,.i a.op,.w a.nn]
theorem AskR.RO(a:AskR):a.cells.length=6:=rfl
structure AskR.ok(W:World)(a:AskR):Prop where
 v:u32 a.v
 nn:u32 a.nn
 rd:Rd W .u32 a.At a.ts.length a.ct a.ts
 ts:∀x,x∈a.ts->u32 x
theorem DI(op:Int)(w:World):Ctr prog 98 [.i op] w [] (λv cs=>(∃z,v= .i z)/\cs=[]):=by
 refine Zfs func98 ntmps98 ?_;refine AN ?_ ?_<;>intro hc1
 .refine gf ?_;exact⟨⟨_,rfl⟩,rfl⟩
 refine kX ?_;refine Zw3 ?_ ?_<;>intro hc3
 .refine gf ?_;exact⟨⟨_,rfl⟩,rfl⟩
 refine kX ?_;refine kX ?_;refine Zw3 ?_ ?_<;>intro hc5
 .refine gf ?_;exact⟨⟨_,rfl⟩,rfl⟩
 refine ls ?_;exact⟨⟨_,rfl⟩,rfl⟩
theorem Lf(n:Int)(w:World):Ctr prog 99 [.i n] w [] (λv cs=>(∃z,v= .i z/\z∈sO)/\cs=[]):=by
 obtain⟨x,hx⟩:=Zgn (gx n 0 1073741824);have hxr:=fT n 0 1073741824 Wq7;rw[hx]at hxr;have HW:=λw=>Nx hx w Wq7 Wq7 Wq7
 obtain⟨k,hk⟩:∃k:Nat,x%42=k:=ap Wq1;have hk42:k<sO.length:=by show k<42;omega
 have hop:sO[k]? =some (sO[k]'hk42):=aa hk42;have hmem:sO[k]'hk42∈sO:=List.getElem_mem hk42;obtain⟨op,hq⟩:=Zgn (sO[k]'hk42);rw[hq]at hop hmem;have hk42:k<42:=hk42;refine Zfs func99 ntmps99 ?_;refine Z_7 ?_;refine kY ?_;rintro _ _ ⟨b4,rfl,rfl⟩;refine Z_7 ?_;refine ZSe (λw hi=>HW w) ?_;refine Z_2 ?_;refine Zy (i4 (Zv rfl) (Zv rfl) Wq1 (show _=(k:Int)from by rw[aO Wq1];exact hk)) ?_;refine Zy (bV (j:=k) (sz:=1) (r:=k) rfl Zrf (Zv rfl) (Zv rfl) Wq2 Wq2 Wq1) ?_;refine dK (bF Zrf Zv0) (cM Zh (cq (l:=[1,1,1,2,3,4,5,6,7,8,16,17,18,19,20,21,22,23,24,25,32,33,34,35,36,37,38,39,40,48,49,50,51,52,53,64,65,66,67,68,0,69]) hop)) rfl (Z_4 ?_);refine Zra ?_;exact⟨⟨_,rfl,hmem⟩,rfl⟩
theorem FR(n v:Int)(hv:u32 v)(w:World):Ctr prog 76 [.i n,.w v] w [] (λx cs=>(∃op nn,x= .agg #[.i op,.w nn]/\u32 nn/\op∈sO)/\cs=[]):=by
 obtain⟨v,rfl⟩:∃m:Nat,v=m:=ap hv.1;have hv2:(v:Int)<=4294967295:=hv.2;obtain⟨x,hx,hxu⟩:∃x,([(v:Int),((v%256:Nat):Int),((32768+v%64:Nat):Int),((v%4096:Nat):Int)]:List Int)[v%4]? =some x/\u32 x:=by
  have:v%4=0\/v%4=1\/v%4=2\/v%4=3:=by omega
  rcases this with h|h|h|h<;>rw[h]
  .exact⟨_,rfl,hv⟩
  .exact⟨_,rfl,i5 Wq1⟩
  .exact⟨_,rfl,i5 Wq1⟩
  exact⟨_,rfl,i5 Wq1⟩
 refine Zfs func76 ntmps76 ?_;refine Z_2 ?_;refine ZN λb4=>?_;refine Z_5 ?_;refine ZSn (λw hi=>Lf n w) ?_;rintro _ _ ⟨⟨op,rfl,hop⟩,rfl⟩;refine ZA ?_;refine ZN λb5=>?_
 refine ZM ?_;refine Z_7 ?_;refine ZSn (λw hi=>DI op w) ?_;rintro _ _ ⟨⟨z,rfl⟩,rfl⟩;refine Zw9 ?_ ?_<;>intro hc3
 .refine Z_3 ?_;refine QI ?_;refine gP ?_;refine sx ?_;refine ZW ?_ ?_<;>intro hc5
  .refine Z_2 ?_;refine Zy (i4 (Zv rfl) (Zv rfl) Wq1 (show _=((v%12:Nat):Int)from by rw[aO Wq1];omega)) ?_;refine gP ?_;refine AN ?_ ?_<;>intro hc7
   .exact Wq141
   exact Wq91
  refine AN ?_ ?_<;>intro hc7
  .exact Wq141
  exact Wq91
 refine Zw6 ?_ ?_<;>intro hc9
 .refine Z_3 ?_;refine QI ?_;refine ZA ?_;refine Zy (i4 (Zv rfl) (Zv rfl) Wq1 (show _=((v%64:Nat):Int)from by rw[aO Wq1];omega)) ?_;refine Zy (ef (Zv rfl) (Zv rfl) (show _=((32768+v%64:Nat):Int)from by rw[u32_wrap_id _ Wq1 Wq1];omega)) ?_;refine ZA ?_;refine Zy (i4 (Zv rfl) (Zv rfl) Wq1 (show _=((v%4096:Nat):Int)from by rw[aO Wq1];omega)) ?_;refine kY ?_;rintro _ _ ⟨b51,rfl,rfl⟩;refine ZA ?_;refine Zy (i4 (Zv rfl) (Zv rfl) Wq1 (show _=((v%4:Nat):Int)from by rw[aO Wq1];omega)) ?_;refine Zy (bV (j:=(v%4)) (sz:=1) (r:=(v%4)) rfl Zrf (Zv rfl) (Zv rfl) Wq2 Wq2 Wq1) ?_;refine dK (bF Zrf Zv0) (cM Zh (cq (l:=[(v:Int),((v%256:Nat):Int),((32768+v%64:Nat):Int),((v%4096:Nat):Int)]) hx)) rfl (gP ?_);exact Wq91
 exact Wq91
section
variable {n:Nat} {op nn:Int} {s:St} {U:Mmu} {d:Dev}
end
theorem kp{W:World}{k:IntKind}{A:Option Addr}{c:Nat}{b:List Int}(h:Rd W k A b.length c b)(m:Nat):Rd W k A (b.take m).length c (b.take m):=by
 refine⟨by simp[ints],?_,h.max,λe=>?_,λad e j u hu=>h.at_ ad e j u ?_⟩
 .have:=h.cap;rw[aI];omega
 .have:=h.nil e;rw[aI];omega
 unfold ints at hu|-;rw[aW]at hu|-;rw[List.getElem?_take]at hu;by_cases hj:j<m
 .simpa[hj]using hu
 simp[hj]at hu
theorem wn(A:Option Addr)(c:Nat)(l:List Int)(k:Nat)(w:World)(hc:l.length<=c):Ctr prog 21 [.slice A l.length c,.i k] w [] (λv cs=>v= .slice A (l.take k).length c/\cs=[]):=by
 rw[aI,Nat.min_comm];refine Zfs func21 ntmps21 ?_;refine AN ?_ ?_<;>intro hc1
 .simp only[ae]at hc1;have e:min l.length k=k:=by omega
  rw[e];refine Z_4 ?_;refine Zy (fH k rfl Zrf (Zv rfl) (Zv rfl) AH Wq2) ?_;refine Z_5 ?_;exact pM
 simp only[ac]at hc1;have e:min l.length k=l.length:=by omega
 rw[e];refine Z_9 ?_;exact pM
theorem Je{n:Int}(h:(Lit.int .u8 n).wf=true):0<=n/\n<=255:=by
 simp only[Lit.wf,aD,ae]at h;have h1:IntKind.u8.min=0:=rfl;have h2:IntKind.u8.max=255:=rfl;rw[h1,h2]at h;exact h
theorem Hm{W:World}{v:Value}(h:wP prog W 31 v):∃(B:Option Addr) (cb:Nat) (b:List Int),v= .slice B b.length cb/\Rd W .u8 B b.length cb b/\u8s b:=by
 obtain⟨B,cb,b,h1,h2, -,h3⟩:=h.ints (e:=5) (k:= .u8) rfl rfl rfl;exact⟨B,cb,b,h1,h2,λx hx=>Je (h3 x hx)⟩
theorem CF(b:Nat)(Ao:Option Addr)(co:Nat)(o:List Int)(Ai:Option Addr)(ni ci:Nat)(ho:o.length<=1000000000)(w:World)(h:(ww b Ao o.length co Ai ni ci).ok w)(h2:(b8 Ao co o).ok w):
  Ctr prog 45 [.p b] w [] (λv cs=>∃A' c',v= .slice A' o.length c'/\cs=[b8 A' c' o]):=by
 refine Zfs func45 ntmps45 ?_;refine tH ?_;refine ZSn (λw hi=>nK Ao _ co o w (RdV.RU (dp h2) hi) Wq1) ?_;rintro _ _ ⟨A',c',rfl,rfl⟩;refine Z_4 ?_;exact IC
theorem P4(b:Nat)(Ao:Option Addr)(no co:Nat)(Ai:Option Addr)(ci:Nat)(i:List Int)(ho:i.length<=1000000000)(w:World)(h:(ww b Ao no co Ai i.length ci).ok w)(h2:(b8 Ai ci i).ok w):
  Ctr prog 63 [.p b] w [] (λv cs=>∃A' c',v= .slice A' i.length c'/\cs=[b8 A' c' i]):=by
 refine Zfs func63 ntmps63 ?_;refine tH ?_;refine ZSn (λw hi=>nK Ai _ ci i w (RdV.RU (dp h2) hi) Wq1) ?_;rintro _ _ ⟨A',c',rfl,rfl⟩;refine Z_4 ?_;exact IC
theorem Mq(b bd:Nat)(l:List Int)(w:World)(h:(I1 b bd).ok w)(h2:(Ik bd l).ok w):
  Ctr prog 64 [.p b] w [] (λv cs=>∃A' c',v= .slice A' 1024 c'/\cs=[sl .u8 5 A' 1024 c' l]):=by
 refine Zfs func64 ntmps64 ?_;refine tH ?_;refine ZSn (λw hi=>nK (sA bd) 1024 1024 l w (RdV.RU (dp h2) hi) Wq7) ?_;rintro _ _ ⟨A',c',rfl,rfl⟩;refine Z_4 ?_;exact IC
def dr(op:Int):Bool:=bif(bif decide (0<=op)then decide (op<=8)else false)then true else bif(bif bif decide (16<=op)then decide (op<=25)else false then op !=24 else false)then true else(bif decide (32<=op)then decide (op<=40)else false)
theorem ja{op:Int}(h:dr op=true):(0<=op/\op<=8)\/(16<=op/\op<=23)\/op=25\/(32<=op/\op<=40):=by
 grind [dr]
theorem qs{op:Int}(h:dr op=true):op=0\/op=1\/op=2\/op=3\/op=4\/op=5\/op=6\/op=7\/op=8\/(16<=op/\op<=23)\/op=25\/op=32\/(33<=op/\op<=37)\/op=38\/op=39\/op=40:=by
 rcases ja h with h|h|h|h<;>omega
theorem za{α:Type}{p:List α->Prop}(h0:p [])(hs:∀l x,p l->p (l++[x]))(l:List α):p l:=by
 have h:∀m:List α,p m.reverse:=λm=>by
  induction m with
  |nil=>exact h0
  |cons x m ih=>grind
 have:=h l.reverse
 grind
structure II where
 op:Int
 dst:Int
 a:Int
 b:Int
 imm:Int
structure Sd where
 l:List Int
 RL:Int
 high:Int
structure Lw where
 code:List II
 d:Sd
 r:Sd
 flags:Int
 target:Int
 branch:Int
def fe(k:Int)(code:List II)(s:Sd):Int×List II×Sd:=
 match s.l.getLast? with
 |some n=>(n,code,⟨s.l.dropLast,s.RL,s.high⟩)
 |none=>(code.length,code++[⟨k,code.length,0,0,IntKind.u32.wrap s.RL⟩],⟨[],s.RL+1,s.high⟩)
def Sd.put(s:Sd)(l:List Int):Sd:=⟨s.l++l,s.RL,s.high⟩
def Sd.top(s:Sd):Sd:=⟨s.l,s.RL,max s.high ((s.l.length:Int) - s.RL)⟩
def Lw.RK(w:Lw):Int×Lw:=((fe 1 w.code w.d).1,⟨(fe 1 w.code w.d).2.1,(fe 1 w.code w.d).2.2,w.r,w.flags,w.target,w.branch⟩)
def Lw.Su(w:Lw):Int×Lw:=((fe 2 w.code w.r).1,⟨(fe 2 w.code w.r).2.1,w.d,(fe 2 w.code w.r).2.2,w.flags,w.target,w.branch⟩)
def Lw.SF(w:Lw)(l:List Int):Lw:=⟨w.code,w.d.put l,w.r,w.flags,w.target,w.branch⟩
def Lw.S9(w:Lw)(l:List Int):Lw:=⟨w.code,w.d,w.r.put l,w.flags,w.target,w.branch⟩
def Lw.add(w:Lw)(op a b imm:Int):Lw:=⟨w.code++[⟨op,w.code.length,a,b,imm⟩],w.d,w.r,w.flags,w.target,w.branch⟩
def Lw.here(w:Lw):Int:=w.code.length
def Lw.wfl(w:Lw)(x:Int):Lw:=⟨w.code,w.d,w.r,x,w.target,w.branch⟩
def Lw.wtg(w:Lw)(x:Int):Lw:=⟨w.code,w.d,w.r,w.flags,x,w.branch⟩
def Lw.wbr(w:Lw)(x:Int):Lw:=⟨w.code,w.d,w.r,w.flags,w.target,x⟩
def Lw.RR(w:Lw):Lw:=⟨w.code,w.d.top,w.r.top,w.flags,w.target,w.branch⟩
def Lw.reckon(w:Lw)(op a b:Int):Lw:=
 let w1:=(w.add 4 a b op).wfl w.here
 bif op !=25 then(w1.add 3 a b op).SF [w1.here]else w1
def Lw.go(w:Lw)(op n next:Int):Lw:=
 bif op==1||op==2 then(w.add 0 0 0 n).SF [w.here]else
 bif op==3 then w.RK.2.SF [w.RK.1,w.RK.1]else
 bif op==4 then w.RK.2 else
 bif op==5 then w.RK.2.RK.2.SF [w.RK.1,w.RK.2.RK.1]else
 bif op==6 then w.RK.2.RK.2.SF [w.RK.2.RK.1,w.RK.1,w.RK.2.RK.1]else
 bif op==7 then w.RK.2.S9 [w.RK.1]else
 bif op==8 then w.Su.2.SF [w.Su.1]else
 bif decide (16<=op)&&decide (op<=25)then w.RK.2.RK.2.reckon op w.RK.2.RK.1 w.RK.1 else
 bif op==38 then(w.add 0 0 0 next).S9 [w.here]else
 bif op==39 then w.Su.2.wtg w.Su.1 else
 bif op==40 then w.RK.2.wtg w.RK.1 else
 bif decide (33<=op)&&decide (op<=37)then w.wbr op else w
def Lw.one(w:Lw)(op n next:Int):Lw:=(w.go op n next).RR
def lc(D R V:List Int)(x:II):Int:=
 bif x.op==0 then x.imm else bif x.op==1 then D.getD (D.length - 1 - x.imm.toNat) 0 else bif x.op==2 then R.getD (R.length - 1 - x.imm.toNat) 0 else
 bif x.op==3 then(jH x.imm (V.getD x.a.toNat 0) (V.getD x.b.toNat 0)).1 else(jH x.imm (V.getD x.a.toNat 0) (V.getD x.b.toNat 0)).2.1
def Si(D R:List Int)(code:List II):List Int:=code.foldl (λV x=>V++[lc D R V x]) []
section
variable {D R:List Int}
theorem lA(code:List II)(x:II):Si D R (code++[x])=Si D R code++[lc D R (Si D R code) x]:=by simp[Si]
theorem tQ(code:List II):(Si D R code).length=code.length:=by
 refine za (p:=λcode=>(Si D R code).length=code.length) rfl (λl x ih=>?_) code
 grind [lA]
theorem EW(c e:List II):∃m,Si D R (c++e)=Si D R c++m:=by
 refine za (p:=λe=>∃m,Si D R (c++e)=Si D R c++m) ⟨[],by simp⟩ (λl x ih=>?_) e
 grind [lA]
def II.in_(n:Int)(code:List II):Prop:=0<=n/\n<(code.length:Int)
def ek(D R:List Int)(code:List II)(n:Int):Int:=(Si D R code).getD n.toNat 0
theorem g9{c e:List II}{n:Int}(h:II.in_ n c):ek D R (c++e) n=ek D R c n:=by
 obtain⟨m,hm⟩:=EW (D:=D) (R:=R) c e;have hl:=tQ (D:=D) (R:=R) c;have h2:n.toNat<(Si D R c).length:=by have:=h.1;have:=h.2;omega
 grind [ek]
theorem sT{c:List II}{n:Int}(e:List II)(h:II.in_ n c):II.in_ n (c++e):=⟨h.1,by have:=h.2;simp;omega⟩
theorem kf(c:List II)(x:II):ek D R (c++[x]) c.length=lc D R (Si D R c) x:=by
 grind [ek,lA,tQ]
theorem oS(c:List II)(x:II):II.in_ (c.length:Int) (c++[x]):=⟨by omega,by simp;omega⟩
structure SI(D R D0:List Int)(code:List II)(s:Sd)(t:List Int):Prop where
 Ti:0<=s.RL
 Th:s.RL<=(D0.length:Int)
 eq:t=D0.take (D0.length - s.RL.toNat)++s.l.map (ek D R code)
 idx:∀n,n∈s.l->II.in_ n code
theorem SI.app{D0:List Int}{code:List II}{s:Sd}{t:List Int}(h:SI D R D0 code s t)(e:List II):SI D R D0 (code++e) s t:=
 ⟨h.Ti,h.Th,by rw[h.eq];congr 1;exact List.map_congr_left λn hn=>(g9 (h.idx n hn)).symm,λn hn=>sT e (h.idx n hn)⟩
theorem SI.put{D0:List Int}{code:List II}{s:Sd}{t:List Int}(h:SI D R D0 code s t)(l:List Int)(hl:∀n,n∈l->II.in_ n code):SI D R D0 code (s.put l) (t++l.map (ek D R code)):=
 ⟨h.Ti,h.Th,by rw[h.eq];simp[Sd.put],λn hn=>by rcases aF.1 hn with h1|h1;exact h.idx n h1;grind⟩
theorem SI.top{D0:List Int}{code:List II}{s:Sd}{t:List Int}(h:SI D R D0 code s t):SI D R D0 code s.top t:=⟨h.Ti,h.Th,h.eq,h.idx⟩
theorem SI.len{D0:List Int}{code:List II}{s:Sd}{t:List Int}(h:SI D R D0 code s t):(t.length:Int)=(D0.length:Int) - s.RL+(s.l.length:Int):=by
 have h1:=h.Ti;have h2:=h.Th;rw[h.eq];simp;omega
theorem Kk{D0:List Int}{k:Int}(hk:k=1/\D0=D\/k=2/\D0=R){code:List II}{s:Sd}{t:List Int}(h:SI D R D0 code s t)(hD:D0.length<=100)
  (hn:(fe k code s).2.2.RL<=(D0.length:Int)):
  ∃l x,t=l++[x]/\SI D R D0 (fe k code s).2.1 (fe k code s).2.2 l/\II.in_ (fe k code s).1 (fe k code s).2.1/\ek D R (fe k code s).2.1 (fe k code s).1=x/\∃e,(fe k code s).2.1=code++e:=by
 have h0:=h.Ti;have h1:=h.Th;have he:=h.eq;unfold fe at hn|-;cases hl:s.l.getLast? with
 |some n=>
  rw[hl]at hn;obtain⟨m,hm⟩:∃m,s.l=m++[n]:=List.getLast?_eq_some_iff.1 hl;refine⟨D0.take (D0.length - s.RL.toNat)++m.map (ek D R code),ek D R code n,?_,⟨h0,h1,?_,?_⟩,?_,rfl,[],?_⟩
  .grind
  .simp[hm]
  .intro j hj;rw[hm]at hj;exact h.idx j bR
  .exact h.idx n bR
  simp
 |none=>
  rw[hl]at hn;have hs:s.l=[]:=List.getLast?_eq_none_iff.1 hl;have hn:s.RL+1<=(D0.length:Int):=hn;have hw:IntKind.u32.wrap s.RL=s.RL:=by rw[aC];omega
  rw[hs]at he;obtain⟨j,hj⟩:∃j:Nat,s.RL=j:=⟨s.RL.toNat,by omega⟩;have hv:ek D R (code++[⟨k,code.length,0,0,IntKind.u32.wrap s.RL⟩]) code.length=D0.getD (D0.length - 1 - j) 0:=by
   rw[kf,hw,hj];rcases hk with⟨rfl,rfl⟩|⟨rfl,rfl⟩<;>rfl
  refine⟨D0.take (D0.length - (j+1)),D0.getD (D0.length - 1 - j) 0,?_,⟨by grind,hn,?_,λn hn=>by cases hn⟩,oS _ _,hv,_,rfl⟩
  .rw[he,hj];have e1:D0.length - ((j:Int)).toNat=(D0.length - (j+1))+1:=by omega
   rw[e1,List.map_nil,az,List.take_add_one];congr 1;have e2:D0.length - 1 - j=D0.length - (j+1):=by omega
   have e3:D0.length - (j+1)<D0.length:=by omega
   grind
  grind
structure LI(D R:List Int)(w:Lw)(td tr:List Int):Prop where
 d:SI D R D w.code w.d td
 r:SI D R R w.code w.r tr
def FL(D R:List Int)(f0:Int)(w:Lw)(f:Int):Prop:=w.flags= -1/\f=f0\/II.in_ w.flags w.code/\f=ek D R w.code w.flags
theorem FL.app{f0 f:Int}{w w':Lw}(h:FL D R f0 w f){e:List II}(hc:w'.code=w.code++e)(hf:w'.flags=w.flags):FL D R f0 w' f:=by
 rcases h with⟨h1,h2⟩|⟨h1,h2⟩
 .exact Or.inl ⟨by rw[hf,h1],h2⟩
 exact Or.inr ⟨by grind [sT],by grind [g9]⟩
theorem rI{w:Lw}{td tr:List Int}(h:LI D R w td tr)(hD:D.length<=100)(hn:w.RK.2.d.RL<=(D.length:Int)):
  ∃l x,td=l++[x]/\LI D R w.RK.2 l tr/\II.in_ w.RK.1 w.RK.2.code/\ek D R w.RK.2.code w.RK.1=x/\∃e,w.RK.2.code=w.code++e:=by
 obtain⟨l,x,h1,h2,h3,h4,e,h5⟩:=Kk (k:=1) (Or.inl ⟨rfl,rfl⟩) h.d hD hn;exact⟨l,x,h1,⟨h2,by have:=h.r.app e;rw[<-h5]at this;exact this⟩,h3,h4,e,h5⟩
theorem Kl{w:Lw}{td tr:List Int}(h:LI D R w td tr)(hR:R.length<=100)(hn:w.Su.2.r.RL<=(R.length:Int)):
  ∃l x,tr=l++[x]/\LI D R w.Su.2 td l/\II.in_ w.Su.1 w.Su.2.code/\ek D R w.Su.2.code w.Su.1=x/\∃e,w.Su.2.code=w.code++e:=by
 obtain⟨l,x,h1,h2,h3,h4,e,h5⟩:=Kk (k:=2) (Or.inr ⟨rfl,rfl⟩) h.r hR hn;exact⟨l,x,h1,⟨by have:=h.d.app e;rw[<-h5]at this;exact this,h2⟩,h3,h4,e,h5⟩
theorem LI.SF{w:Lw}{td tr:List Int}(h:LI D R w td tr)(l:List Int)(hl:∀n,n∈l->II.in_ n w.code):LI D R (w.SF l) (td++l.map (ek D R w.code)) tr:=⟨h.d.put l hl,h.r⟩
theorem LI.S9{w:Lw}{td tr:List Int}(h:LI D R w td tr)(l:List Int)(hl:∀n,n∈l->II.in_ n w.code):LI D R (w.S9 l) td (tr++l.map (ek D R w.code)):=⟨h.d,h.r.put l hl⟩
theorem LI.add{w:Lw}{td tr:List Int}(h:LI D R w td tr)(op a b imm:Int):LI D R (w.add op a b imm) td tr:=⟨h.d.app _,h.r.app _⟩
theorem LI.RR{w:Lw}{td tr:List Int}(h:LI D R w td tr):LI D R w.RR td tr:=⟨h.d.top,h.r.top⟩
theorem LI.wfl{w:Lw}{td tr:List Int}(h:LI D R w td tr)(x:Int):LI D R (w.wfl x) td tr:=⟨h.d,h.r⟩
theorem LI.wtg{w:Lw}{td tr:List Int}(h:LI D R w td tr)(x:Int):LI D R (w.wtg x) td tr:=⟨h.d,h.r⟩
theorem LI.wbr{w:Lw}{td tr:List Int}(h:LI D R w td tr)(x:Int):LI D R (w.wbr x) td tr:=⟨h.d,h.r⟩
theorem LI.Tc{w:Lw}{td tr:List Int}(h:LI D R w.RR td tr):(td.length:Int)<=(D.length:Int)+w.RR.d.high:=by
 have h1:=h.d.len;have h2:w.RR.d.RL=w.d.RL:=rfl;have h3:w.RR.d.l=w.d.l:=rfl;have h4:(w.d.l.length:Int) - w.d.RL<=w.RR.d.high:=Int.le_max_right _ _
 grind
theorem LI.lenR{w:Lw}{td tr:List Int}(h:LI D R w.RR td tr):(tr.length:Int)<=(R.length:Int)+w.RR.r.high:=by
 have h1:=h.r.len;have h2:w.RR.r.RL=w.r.RL:=rfl;have h3:w.RR.r.l=w.r.l:=rfl;have h4:(w.r.l.length:Int) - w.r.RL<=w.RR.r.high:=Int.le_max_right _ _
 grind
end
section
variable {s:St} {op nn:Int}
theorem Rt{R:Run}(hs:s.right=true)(hp:dr op=true)(ho:gV op nn=true)(hm:BW s op nn=R)(ht:R.R8=Tr.none)(hv:R.device=false)
  (h1:(bO op).1.1<=s.d.length) (h2:(bO op).2.1<=s.r.length) (h3:s.d.length+(bO op).1.2<=16+(bO op).1.1) (h4:s.r.length+(bO op).2.2<=16+(bO op).2.1):
  doN s op nn=⟨R.s,false,false,[]⟩:=by
 have hn:kU s (bO op)=0:=by
  unfold kU;rw[show decide ((s.d.length:Int)<((bO op).1.1:Int))=false from ar Wq1,show decide ((s.r.length:Int)<((bO op).2.1:Int))=false from ar Wq1,
   show decide (16<(s.d.length:Int) - ((bO op).1.1:Int)+((bO op).1.2:Int))=false from ar Wq1,show decide (16<(s.r.length:Int) - ((bO op).2.1:Int)+((bO op).2.2:Int))=false from ar Wq1]
  rfl
 have hc:=ja hp;have e1:rN op=false:=by unfold rN;rw[show decide (65<=op)=false from ar Wq1];rfl
 have e2:(op==66)=false:=by simp;omega
 have e3:(op==67)=false:=by simp;omega
 unfold doN eu;rw[hs,ho,hn,e1,e2,e3,hm];show Rs s R=_;unfold Rs;rw[ht,hv]
 rfl
theorem xK(h:(16<=op/\op<=23)\/op=25)(R:Run):dC op nn R=none/\cB op nn R=(true,bif op !=25 then(R.pop.pop.wfl (jH op R.pop.top R.top).2.1).push [(jH op R.pop.top R.top).1]else R.pop.pop.wfl (jH op R.pop.top R.top).2.1):=by
 have h:op=16\/op=17\/op=18\/op=19\/op=20\/op=21\/op=22\/op=23\/op=25:=by omega
 rcases h with rfl|rfl|rfl|rfl|rfl|rfl|rfl|rfl|rfl<;>exact⟨rfl,rfl⟩
theorem FP(h:33<=op/\op<=37)(R:Run):dC op nn R=none/\cB op nn R=(true,bif(dm op R.s.flags).1 then R.wpc (jB R nn)else R):=by
 have h:op=33\/op=34\/op=35\/op=36\/op=37:=by omega
 rcases h with rfl|rfl|rfl|rfl|rfl<;>exact⟨rfl,rfl⟩
end
def dQ(s:St)(op:Int):Int:=IntKind.u32.wrap (s.pc+IntKind.u32.wrap (cy op))
def ss(D R:List Int)(w:Lw)(op nn nx f:Int):Int:=
 bif(dm w.branch f).1 then IntKind.u32.wrap (nx+lP nn)else bif w.target== -1 then(bif op==32||op==38 then IntKind.u32.wrap (nx+lP nn)else nx)else ek D R w.code w.target
structure EM(D R:List Int)(f0:Int)(s:St)(op nn:Int)(w':Lw)(s':St):Prop where
 did:doN s op nn=⟨s',false,false,[]⟩
 li:LI D R w' s'.d s'.r
 fl:FL D R f0 w' s'.flags
 pc:s'.pc=ss D R w' op nn (dQ s op) s'.flags
 tg:w'.target= -1\/II.in_ w'.target w'.code
 going:op<32->w'.target= -1/\w'.branch=0
 rest:s'=⟨s'.pc,s'.d,s'.r,s'.flags,s.RM,s.RW,s.ie,s.root,s.vec,s.epc,s.RN,s.addr,s.Sa,s.eie,IntKind.u64.wrap (s.count+1),s.halted⟩
section
variable {D R:List Int} {f0:Int} {s:St} {op nn:Int} {w w':Lw}
theorem uv{nx f:Int}(hb:w'.branch=0)(ht:w'.target= -1)(h:(op==32||op==38)=false):ss D R w' op nn nx f=nx:=by
 unfold ss;rw[hb,ht,h];rfl
theorem iQ(td tr:List Int)(hs:s.right=true)(hp:dr op=true)(ho:gV op nn=true)(hm:dC op nn (eP s op)=some (((eP s op).wd td).wr tr))
  (h1:(bO op).1.1<=s.d.length) (h2:(bO op).2.1<=s.r.length) (h3:s.d.length+(bO op).1.2<=16+(bO op).1.1) (h4:s.r.length+(bO op).2.2<=16+(bO op).2.1)
  (hl:LI D R w' td tr) (hf:FL D R f0 w' s.flags) (hb:w'.branch=0) (ht:w'.target= -1) (ho2:(op==32||op==38)=false):∃s',EM D R f0 s op nn w' s':=
 ⟨(((eP s op).wd td).wr tr).s,Rt hs hp ho (by grind [BW]) rfl rfl h1 h2 h3 h4,hl,hf,(uv hb ht ho2).symm,Or.inl ht,λ_=>⟨ht,hb⟩,rfl⟩
theorem Km(w:Lw):w.d.RL<=w.RK.2.d.RL:=by
 show w.d.RL<=(fe 1 w.code w.d).2.2.RL
 grind [fe]
theorem oA{t l:List Int}{x:Int}(h:t=l++[x]):t.length=l.length+1:=by rw[h];simp
theorem zB{td tr:List Int}(h:LI D R w td tr)(hD:D.length<=100)(hn:w.RK.2.RK.2.d.RL<=(D.length:Int)):
  ∃l x y,td=(l++[x])++[y]/\LI D R w.RK.2.RK.2 l tr/\II.in_ w.RK.1 w.RK.2.RK.2.code/\ek D R w.RK.2.RK.2.code w.RK.1=y/\
   II.in_ w.RK.2.RK.1 w.RK.2.RK.2.code/\ek D R w.RK.2.RK.2.code w.RK.2.RK.1=x/\∃e,w.RK.2.RK.2.code=w.code++e:=by
 obtain⟨l1,y,a1,a2,a3,a4,e1,a5⟩:=rI h hD (Int.le_trans (Km w.RK.2) hn)
 grind [rI,sT,g9]
theorem nG{R':Run}(hs:s.right=true)(hp:dr op=true)(ho:gV op nn=true)(hm:BW s op nn=R')(ht:R'.R8=Tr.none)(hv:R'.device=false)
  (h1:(bO op).1.1<=s.d.length) (h2:(bO op).2.1<=s.r.length) (h3:s.d.length+(bO op).1.2<=16+(bO op).1.1) (h4:s.r.length+(bO op).2.2<=16+(bO op).2.1)
  (hl:LI D R w' R'.s.d R'.s.r) (hf:FL D R f0 w' R'.s.flags) (hpc:R'.s.pc=ss D R w' op nn (dQ s op) R'.s.flags) (htg:w'.target= -1\/II.in_ w'.target w'.code) (hgo:op<32->w'.target= -1/\w'.branch=0)
  (hr:R'.s=⟨R'.s.pc,R'.s.d,R'.s.r,R'.s.flags,s.RM,s.RW,s.ie,s.root,s.vec,s.epc,s.RN,s.addr,s.Sa,s.eie,IntKind.u64.wrap (s.count+1),s.halted⟩):∃s',EM D R f0 s op nn w' s':=
 ⟨R'.s,Rt hs hp ho hm ht hv h1 h2 h3 h4,hl,hf,hpc,htg,hgo,hr⟩
theorem lJ(h:(16<=op/\op<=23)\/op=25)(w:Lw)(n nx:Int):w.go op n nx=w.RK.2.RK.2.reckon op w.RK.2.RK.1 w.RK.1:=by
 have h:op=16\/op=17\/op=18\/op=19\/op=20\/op=21\/op=22\/op=23\/op=25:=by omega
 rcases h with rfl|rfl|rfl|rfl|rfl|rfl|rfl|rfl|rfl<;>rfl
theorem kT(h:16<=op/\op<=23):bO op=((2,1),(0,0)):=by
 have h:op=16\/op=17\/op=18\/op=19\/op=20\/op=21\/op=22\/op=23:=by omega
 rcases h with rfl|rfl|rfl|rfl|rfl|rfl|rfl|rfl<;>rfl
theorem vg(h:(16<=op/\op<=23)\/op=25){l:List Int}{x y:Int}(hd:s.d=(l++[x])++[y]):
  BW s op nn=bif op !=25 then((eP s op).wd (l++[(jH op x y).1])).wfl (jH op x y).2.1 else((eP s op).wd l).wfl (jH op x y).2.1:=by
 have e0:eP s op=(eP s op).wd ((l++[x])++[y]):=congrArg (λt=>(eP s op).wd t) hd;unfold BW;rw[(xK h (eP s op)).1];show(bif(cB op nn (eP s op)).1 then(cB op nn (eP s op)).2 else _)=_;rw[(xK h (eP s op)).2];have e1:(eP s op).top=y:=(congrArg Run.top e0).trans (Run.top_wd _ _ _);have e2:(eP s op).pop=(eP s op).wd (l++[x]):=(congrArg Run.pop e0).trans (Run.pop_wd _ _ _);have e3:(eP s op).pop.top=x:=(congrArg Run.top e2).trans (Run.top_wd _ _ _);have e4:(eP s op).pop.pop=(eP s op).wd l:=(congrArg Run.pop e2).trans (Run.pop_wd _ _ _);rw[e1,e3,e4]
 rfl
theorem F4{c:List II}{a b x y:Int}(k6:ek D R c a=x)(k4:ek D R c b=y):ek D R (c++[⟨4,c.length,a,b,op⟩]) c.length=(jH op x y).2.1:=by
 rw[kf,<-k6,<-k4];rfl
theorem alu_new{c:List II}{a b x y:Int}(k6:ek D R c a=x)(k4:ek D R c b=y):ek D R (c++[⟨3,c.length,a,b,op⟩]) c.length=(jH op x y).1:=by
 rw[kf,<-k6,<-k4];rfl
theorem jump_no(h:(16<=op/\op<=23)\/op=25):(op==32||op==38)=false:=by
 grind
theorem one_ok(hp:dr op=true)(ho:gV op nn=true)(hs:s.right=true)(h:LI D R w s.d s.r)(hf:FL D R f0 w s.flags)(hD:D.length<=16)(hR:R.length<=16)(ht:w.target= -1)(hb:w.branch=0)
  (n1:(w.one op nn (dQ s op)).d.RL<=(D.length:Int)) (n2:(w.one op nn (dQ s op)).r.RL<=(R.length:Int))
  (g1:(D.length:Int)+(w.one op nn (dQ s op)).d.high<=16) (g2:(R.length:Int)+(w.one op nn (dQ s op)).r.high<=16):∃s',EM D R f0 s op nn (w.one op nn (dQ s op)) s':=by
 obtain⟨q1,q2, -⟩:=St.fits hs;obtain⟨nx,hnx⟩:=Zgn (dQ s op);rcases qs hp with rfl|rfl|rfl|rfl|rfl|rfl|rfl|rfl|rfl|hr|hr|rfl|hr|rfl|rfl|rfl
 .refine iQ s.d s.r hs hp ho rfl (au _) (au _) q1 q2 h.RR hf hb ht rfl
 .have h6:LI D R (w.one 1 nn nx) (s.d++[nn]) s.r:=by
   exact Wq273
  have h8:=h6.Tc;rw[hnx]at g1;refine iQ (s.d++[nn]) s.r hs hp ho rfl (au _) (au _) (show s.d.length+1<=16+0 from ?_) q2 (hnx▸h6) (hf.app (w':=w.one 1 nn (dQ s 1)) rfl rfl) hb ht rfl;have h9:(((s.d++[nn]).length:Nat):Int)<=_:=h8;have h10:=Int.le_trans h9 g1
  grind
 .have h6:LI D R (w.one 2 nn nx) (s.d++[nn]) s.r:=by
   exact Wq273
  have h8:=h6.Tc;rw[hnx]at g1;refine iQ (s.d++[nn]) s.r hs hp ho rfl (au _) (au _) (show s.d.length+1<=16+0 from ?_) q2 (hnx▸h6) (hf.app (w':=w.one 2 nn (dQ s 2)) rfl rfl) hb ht rfl;have h9:(((s.d++[nn]).length:Nat):Int)<=_:=h8;have h10:=Int.le_trans h9 g1
  grind
 .obtain⟨l,x,k1,k2,k3,k4,e,k5⟩:=rI h Wq1 n1;have h6:LI D R (w.one 3 nn nx) (l++[x,x]) s.r:=by
   have h7:=(k2.SF [w.RK.1,w.RK.1] bR).RR;rw[show[w.RK.1,w.RK.1].map (ek D R w.RK.2.code)=[x,x] by simp[k4]]at h7;exact h7
  have h8:(((l++[x,x]:List Int).length:Nat):Int)<=_:=h6.Tc;rw[hnx]at g1;have h10:=Int.le_trans h8 g1;have h11:=oA k1;simp at h10;refine iQ (l++[x,x]) s.r hs hp ho ((congrArg (λt=>dC 3 nn ((eP s 3).wd t)) k1).trans (o9 nn (eP s 3) l x)) (show 1<=s.d.length by omega) (au _) (show s.d.length+2<=16+1 by omega) q2 (hnx▸h6) (hf.app (w':=w.one 3 nn (dQ s 3)) k5 rfl) hb ht rfl
 .obtain⟨l,x,k1,k2,k3,k4,e,k5⟩:=rI h Wq1 n1;have h6:LI D R (w.one 4 nn nx) (l) s.r:=by
   have h7:=k2.RR;exact h7
  have h8:(((l:List Int).length:Nat):Int)<=_:=h6.Tc;rw[hnx]at g1;have h10:=Int.le_trans h8 g1;have h11:=oA k1;refine iQ (l) s.r hs hp ho ((congrArg (λt=>dC 4 nn ((eP s 4).wd t)) k1).trans (m7 nn (eP s 4) l x)) (show 1<=s.d.length by omega) (au _) (show s.d.length+0<=16+1 by omega) q2 (hnx▸h6) (hf.app (w':=w.one 4 nn (dQ s 4)) k5 rfl) hb ht rfl
 .obtain⟨l,x,y,k1,k2,k3,k4,k5,k6,e,k7⟩:=zB h Wq1 n1;have h6:LI D R (w.one 5 nn nx) (l++[y,x]) s.r:=by
   have h7:=(k2.SF [w.RK.1,w.RK.2.RK.1] bR).RR;rw[show[w.RK.1,w.RK.2.RK.1].map (ek D R w.RK.2.RK.2.code)=[y,x] by grind]at h7;exact h7
  have h8:(((l++[y,x]:List Int).length:Nat):Int)<=_:=h6.Tc;rw[hnx]at g1;have h10:=Int.le_trans h8 g1;have h11:s.d.length=l.length+2:=by rw[k1];simp
  simp at h10;refine iQ (l++[y,x]) s.r hs hp ho ((congrArg (λt=>dC 5 nn ((eP s 5).wd t)) k1).trans (m5 nn (eP s 5) l x y)) (show 2<=s.d.length by omega) (au _) (show s.d.length+2<=16+2 by omega) q2 (hnx▸h6) (hf.app (w':=w.one 5 nn (dQ s 5)) k7 rfl) hb ht rfl
 .obtain⟨l,x,y,k1,k2,k3,k4,k5,k6,e,k7⟩:=zB h Wq1 n1;have h6:LI D R (w.one 6 nn nx) (l++[x,y,x]) s.r:=by
   have h7:=(k2.SF [w.RK.2.RK.1,w.RK.1,w.RK.2.RK.1] bR).RR;rw[show[w.RK.2.RK.1,w.RK.1,w.RK.2.RK.1].map (ek D R w.RK.2.RK.2.code)=[x,y,x] by grind]at h7;exact h7
  have h8:(((l++[x,y,x]:List Int).length:Nat):Int)<=_:=h6.Tc;rw[hnx]at g1;have h10:=Int.le_trans h8 g1;have h11:s.d.length=l.length+2:=by rw[k1];simp
  simp at h10;refine iQ (l++[x,y,x]) s.r hs hp ho ((congrArg (λt=>dC 6 nn ((eP s 6).wd t)) k1).trans (m6 nn (eP s 6) l x y)) (show 2<=s.d.length by omega) (au _) (show s.d.length+3<=16+2 by omega) q2 (hnx▸h6) (hf.app (w':=w.one 6 nn (dQ s 6)) k7 rfl) hb ht rfl
 .obtain⟨l,x,k1,k2,k3,k4,e,k5⟩:=rI h Wq1 n1;have h6:LI D R (w.one 7 nn nx) l (s.r++[x]):=by
   have h7:=(k2.S9 [w.RK.1] bR).RR;rw[show[w.RK.1].map (ek D R w.RK.2.code)=[x] by simp[k4]]at h7;exact h7
  have h8:(((s.r++[x]:List Int).length:Nat):Int)<=_:=h6.lenR;rw[hnx]at g2;have h10:=Int.le_trans h8 g2;have h11:=oA k1;simp at h10;refine iQ l (s.r++[x]) hs hp ho ((congrArg (λt=>dC 7 nn ((eP s 7).wd t)) k1).trans (o7 nn (eP s 7) l x)) (show 1<=s.d.length by omega) (au _) (show s.d.length+0<=16+1 by omega) (show s.r.length+1<=16+0 by omega) (hnx▸h6) (hf.app (w':=w.one 7 nn (dQ s 7)) k5 rfl) hb ht rfl
 .obtain⟨l,x,k1,k2,k3,k4,e,k5⟩:=Kl h Wq1 n2;have h6:LI D R (w.one 8 nn nx) (s.d++[x]) l:=by
   have h7:=(k2.SF [w.Su.1] bR).RR;rw[show[w.Su.1].map (ek D R w.Su.2.code)=[x] by simp[k4]]at h7;exact h7
  have h8:(((s.d++[x]:List Int).length:Nat):Int)<=_:=h6.Tc;rw[hnx]at g1;have h10:=Int.le_trans h8 g1;have h11:=oA k1;simp at h10;refine iQ (s.d++[x]) l hs hp ho ((congrArg (λt=>dC 8 nn ((eP s 8).wr t)) k1).trans (lZ nn (eP s 8) l x)) (au _) (show 1<=s.r.length by omega) (show s.d.length+1<=16+0 by omega) (show s.r.length+0<=16+1 by omega) (hnx▸h6) (hf.app (w':=w.one 8 nn (dQ s 8)) k5 rfl) hb ht rfl
 .have hr2:(16<=op/\op<=23)\/op=25:=Or.inl hr;have e25:(op !=25)=true:=by simp;omega
  have ew:w.one op nn (dQ s op)=(((((w.RK.2.RK.2.add 4 w.RK.2.RK.1 w.RK.1 op).wfl w.RK.2.RK.2.here).add 3 w.RK.2.RK.1 w.RK.1 op).SF [((w.RK.2.RK.2.add 4 w.RK.2.RK.1 w.RK.1 op).wfl w.RK.2.RK.2.here).here])).RR:=by
   refine(congrArg Lw.RR (lJ hr2 w nn _)).trans (congrArg Lw.RR ?_);unfold Lw.reckon;rw[e25]
   rfl
  rw[ew]at n1 n2 g1 g2|-;obtain⟨l,x,y,k1,k2,k3,k4,k5,k6,e,k7⟩:=zB h Wq1 n1;have h6:=(((k2.add 4 w.RK.2.RK.1 w.RK.1 op).wfl w.RK.2.RK.2.here).add 3 w.RK.2.RK.1 w.RK.1 op).SF [((w.RK.2.RK.2.add 4 w.RK.2.RK.1 w.RK.1 op).wfl w.RK.2.RK.2.here).here] (λn hn=>by
   rw[aB.1 hn];exact oS _ _)
  have hv:=alu_new (D:=D) (R:=R) (op:=op) (c:=w.RK.2.RK.2.code++[⟨4,w.RK.2.RK.2.code.length,w.RK.2.RK.1,w.RK.1,op⟩]) ((g9 k5).trans k6) ((g9 k3).trans k4);rw[List.map_cons,List.map_nil]at h6;have h7:=Eq.mp (congrArg (λv=>LI D R ((((w.RK.2.RK.2.add 4 w.RK.2.RK.1 w.RK.1 op).wfl w.RK.2.RK.2.here).add 3 w.RK.2.RK.1 w.RK.1 op).SF [((w.RK.2.RK.2.add 4 w.RK.2.RK.1 w.RK.1 op).wfl w.RK.2.RK.2.here).here]) (l++[v]) s.r) hv) h6;have h8:=h7.RR.Tc;have h10:=Int.le_trans h8 g1;have h11:s.d.length=l.length+2:=by rw[k1];simp
  simp at h10;refine nG (R':=((eP s op).wd (l++[(jH op x y).1])).wfl (jH op x y).2.1) hs hp ho (by grind [vg]) rfl rfl ?_ ?_ ?_ ?_ h7.RR ?_ ?_ (Or.inl ht) (λ_=>⟨ht,hb⟩) rfl
  .grind [kT]
  .grind [kT]
  .grind [kT]
  .grind [kT]
  .exact Or.inr ⟨sT _ (oS _ _),((g9 (oS _ _)).trans (F4 k6 k4)).symm⟩
  refine Eq.symm (uv ?_ ?_ (jump_no hr2))
  .exact hb
  exact ht
 .subst hr;have ew:w.one 25 nn (dQ s 25)=((w.RK.2.RK.2.add 4 w.RK.2.RK.1 w.RK.1 25).wfl w.RK.2.RK.2.here).RR:=rfl;rw[ew]at n1 n2 g1 g2|-;obtain⟨l,x,y,k1,k2,k3,k4,k5,k6,e,k7⟩:=zB h Wq1 n1;have h7:=((k2.add 4 w.RK.2.RK.1 w.RK.1 25).wfl w.RK.2.RK.2.here).RR;have h11:s.d.length=l.length+2:=by rw[k1];simp
  refine nG (R':=((eP s 25).wd l).wfl (jH 25 x y).2.1) hs hp ho (by rw[vg (Or.inr rfl) k1];rfl) rfl rfl (show 2<=s.d.length by omega) (au _) (show s.d.length+0<=16+2 by omega) q2 h7 ?_ ?_ (Or.inl ht) (λ_=>⟨ht,hb⟩) rfl
  .exact Or.inr ⟨oS _ _,(F4 k6 k4).symm⟩
  refine Eq.symm (uv ?_ ?_ rfl)
  .exact hb
  exact ht
 .refine nG (R':=(eP s 32).wpc (jB (eP s 32) nn)) hs hp ho rfl rfl rfl (au _) (au _) q1 q2 h.RR hf ?_ (Or.inl ht) (λh=>absurd h Wq7) rfl;show _=bif(dm w.branch s.flags).1 then _ else bif w.target== -1 then _ else _
  rw[hb,ht];rfl
 .have h5:op=33\/op=34\/op=35\/op=36\/op=37:=by omega
  have eg:w.one op nn (dQ s op)=(w.wbr op).RR:=by rcases h5 with rfl|rfl|rfl|rfl|rfl<;>rfl
  have eq:bO op=((0,0),(0,0)):=by rcases h5 with rfl|rfl|rfl|rfl|rfl<;>rfl
  have ej:(op==32||op==38)=false:=by rcases h5 with rfl|rfl|rfl|rfl|rfl<;>rfl
  rw[eg]at n1 n2 g1 g2|-;have em:BW s op nn=bif(dm op s.flags).1 then(eP s op).wpc (jB (eP s op) nn)else eP s op:=by
   unfold BW;rw[(FP hr _).1];show(bif(cB op nn (eP s op)).1 then(cB op nn (eP s op)).2 else _)=_;rw[(FP hr _).2];rfl
  cases hh:(dm op s.flags).1 with
  |true=>
   rw[hh]at em;refine nG (R':=(eP s op).wpc (jB (eP s op) nn)) hs hp ho em rfl rfl bR bR bR bR (h.wbr op).RR hf ?_ (Or.inl ht) (λh=>absurd h Wq1) rfl;show _=bif(dm op s.flags).1 then _ else _
   rw[hh];rfl
  |false=>
   rw[hh]at em;refine nG (R':=eP s op) hs hp ho em rfl rfl bR bR bR bR (h.wbr op).RR hf ?_ (Or.inl ht) (λh=>absurd h Wq1) rfl;show _=bif(dm op s.flags).1 then _ else bif w.target== -1 then(bif op==32||op==38 then _ else _)else _
   rw[hh,ht,ej];rfl
 .have ew:w.one 38 nn (dQ s 38)=((w.add 0 0 0 (dQ s 38)).S9 [w.here]).RR:=rfl;rw[ew]at n1 n2 g1 g2|-;have h7:=((h.add 0 0 0 (dQ s 38)).S9 [w.here] (λn hn=>by rw[aB.1 hn];exact oS _ _)).RR;rw[List.map_cons,List.map_nil,show ek D R (w.add 0 0 0 (dQ s 38)).code w.here=dQ s 38 from kf _ _]at h7;have h10:=Int.le_trans h7.lenR g2;simp at h10;refine nG (R':=((eP s 38).Te (dQ s 38)).wpc (jB (eP s 38) nn)) hs hp ho rfl rfl rfl (au _) (au _) q1 (show s.r.length+1<=16+0 by omega) h7 (hf.app (w':=((w.add 0 0 0 (dQ s 38)).S9 [w.here]).RR) rfl rfl) ?_ (Or.inl ht) (λh=>absurd h Wq7) rfl;show _=bif(dm w.branch s.flags).1 then _ else bif w.target== -1 then _ else _
  rw[hb,ht];rfl
 .have ew:w.one 39 nn (dQ s 39)=(w.Su.2.wtg w.Su.1).RR:=rfl;rw[ew]at n1 n2 g1 g2|-;obtain⟨l,x,k1,k2,k3,k4,e,k5⟩:=Kl h Wq1 n2;have h11:=oA k1;have e0:eP s 39=(eP s 39).wr (l++[x]):=congrArg (λt=>(eP s 39).wr t) k1;have e1:(eP s 39).topR=x:=(congrArg Run.topR e0).trans (Run.topR_wr _ _ _);have e2:(eP s 39).Su=(eP s 39).wr l:=(congrArg Run.Su e0).trans (Run.popR_wr _ _ _);have em:BW s 39 nn=((eP s 39).wr l).wpc x:=by
   have:BW s 39 nn=(eP s 39).Su.wpc (eP s 39).topR:=rfl;rw[this,e1,e2]
  have e3:(w.Su.1== -1)=false:=by have:=k3.1;simp;omega
  refine nG (R':=((eP s 39).wr l).wpc x) hs hp ho em rfl rfl (au _) (show 1<=s.r.length by omega) q1 (show s.r.length+0<=16+1 by omega) (k2.wtg _).RR (hf.app (w':=(w.Su.2.wtg w.Su.1).RR) k5 rfl) ?_ (Or.inr k3) (λh=>absurd h Wq7) rfl;show x=bif(dm w.branch s.flags).1 then _ else bif w.Su.1== -1 then _ else ek D R w.Su.2.code w.Su.1
  rw[hb,e3,k4];rfl
 have ew:w.one 40 nn (dQ s 40)=(w.RK.2.wtg w.RK.1).RR:=rfl;rw[ew]at n1 n2 g1 g2|-;obtain⟨l,x,k1,k2,k3,k4,e,k5⟩:=rI h Wq1 n1;have h11:=oA k1;have e0:eP s 40=(eP s 40).wd (l++[x]):=congrArg (λt=>(eP s 40).wd t) k1;have e1:(eP s 40).top=x:=(congrArg Run.top e0).trans (Run.top_wd _ _ _);have e2:(eP s 40).pop=(eP s 40).wd l:=(congrArg Run.pop e0).trans (Run.pop_wd _ _ _);have em:BW s 40 nn=((eP s 40).wd l).wpc x:=by
  have:BW s 40 nn=(eP s 40).pop.wpc (eP s 40).top:=rfl;rw[this,e1,e2]
 have e3:(w.RK.1== -1)=false:=by have:=k3.1;simp;omega
 refine nG (R':=((eP s 40).wd l).wpc x) hs hp ho em rfl rfl (show 1<=s.d.length by omega) (au _) (show s.d.length+0<=16+1 by omega) q2 (k2.wtg _).RR (hf.app (w':=(w.RK.2.wtg w.RK.1).RR) k5 rfl) ?_ (Or.inr k3) (λh=>absurd h Wq7) rfl;show x=bif(dm w.branch s.flags).1 then _ else bif w.RK.1== -1 then _ else ek D R w.RK.2.code w.RK.1
 rw[hb,e3,k4];rfl
end
end
end Go.Ink
