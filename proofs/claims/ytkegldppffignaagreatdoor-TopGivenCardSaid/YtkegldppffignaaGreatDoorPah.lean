/- Lemmas. -/
import Derived.Test.YtkegldppffignaaGreatDoorPaa
import Derived.Test.YtkegldppffignaaGreatDoorPab
import Derived.Test.YtkegldppffignaaGreatDoorPaf
import Derived.Test.YtkegldppffignaaGreatDoorPag
set_option linter.unusedSimpArgs false
set_option linter.unusedVariables false
set_option maxRecDepth 100000
set_option maxHeartbeats 4000000
namespace Go.Ink
open Go.RowKit
end Go.Ink
namespace Go.Proofs.YtkegldppffignaaGreatDoor
open Go.RowKit Go.Ink Go.Proofs.Tryz
attribute [local irreducible] OpY bS
theorem Jn{n lo hi x:Int}(hx:kM n lo hi=x)(w:World)(h0:0<=lo)(h1:lo<=hi)(h2:hi<=1000000000000):Ctr prog 15 [.int .i64 n,.int .i64 lo,.int .i64 hi] w [] (λv cs=>v= .int .i64 x/\cs=[]):=hx▸kr n lo hi w h0 h1 h2
end Go.Proofs.YtkegldppffignaaGreatDoor
namespace Go.Ink
open Go.RowKit
abbrev qU:List Int:=[1,1,1,2,3,4,5,6,7,8,16,17,18,19,20,21,22,23,24,25,32,33,34,35,36,37,38,39,40,48,49,50,51,52,53,64,65,66,67,68,0,69]
structure AskR where
 n:Int
 v:Int
 At:Option Addr
 ct:Nat
 ts:List Int
 raw:Bool
 op:Int
 nn:Int
def AskR.cells(a:AskR):List Value:=[.int .i64 a.n,.int .u32 a.v,.slice a.At a.ts.length a.ct,.bool a.raw,.int .i64 a.op,.int .u32 a.nn]
theorem AskR.NH(a:AskR):a.cells.length=6:=rfl
structure AskR.ok(W:World)(a:AskR):Prop where
 v:u32 a.v
 nn:u32 a.nn
 rd:Rd W .u32 a.At a.ts.length a.ct a.ts
 ts:∀x,x∈a.ts->u32 x
end Go.Ink
namespace Go.Proofs.YtkegldppffignaaGreatDoor
open Go.RowKit Go.Ink Go.Proofs.Tryz
attribute [local irreducible] OpY bS
theorem Ay(op:Int)(w:World):Ctr prog 98 [.int .i64 op] w [] (λv cs=>(∃z,v= .int .i64 z)/\cs=[]):=by
 refine bN func98 rfl ntmps98 rfl (Inv.start w) ?_;refine gy ?_;refine ZW ?_ ?_<;>intro hc1
 .refine fX ?_;exact⟨⟨_,rfl⟩,rfl⟩
 refine mn ?_;refine Z_3 ?_;refine ZW ?_ ?_<;>intro hc3
 .refine fX ?_;exact⟨⟨_,rfl⟩,rfl⟩
 refine mn ?_;refine mn ?_;refine Z_3 ?_;refine ZW ?_ ?_<;>intro hc5
 .refine fX ?_;exact⟨⟨_,rfl⟩,rfl⟩
 refine Z_9 ?_;refine Zra ?_;exact⟨⟨_,rfl⟩,rfl⟩
theorem Hb(n:Int)(w:World):Ctr prog 117 [.int .i64 n] w [] (λv cs=>(∃z,v= .int .i64 z/\z∈qU)/\cs=[]):=by
 obtain⟨x,hx⟩:=Zgn (kM n 0 1073741824);have hxr:=ke n 0 1073741824 Wq5;rw[hx]at hxr;have HW:=λw=>Jn hx w Wq5 Wq5 Wq5
 obtain⟨k,hk⟩:∃k:Nat,x%42=k:=ar Wq1;have hk42:k<qU.length:=by show k<42;omega
 have hop:qU[k]? =some (qU[k]'hk42):=ai hk42;have hmem:qU[k]'hk42∈qU:=List.getElem_mem hk42;obtain⟨op,hq⟩:=Zgn (qU[k]'hk42);rw[hq]at hop hmem;have hk42:k<42:=hk42;refine bN func117 rfl ntmps117 rfl (Inv.start w) ?_;refine Z_7 ?_;refine jO ?_;rintro _ _ ⟨b4,rfl,rfl⟩;refine Z_7 ?_;refine ZSe (λw hi=>HW w) ?_;refine Z_2 ?_;refine Zy (ij (Zv rfl) (Zv rfl) Wq1 (show _=(k:Int)from by rw[aG Wq1];exact hk)) ?_;refine Zy (cw (j:=k) (sz:=1) (r:=k) rfl Zrf (Zv rfl) (Zv rfl) Wq4 Wq4 Wq1) ?_;refine dN (bQ Zrf Zv0) (dm Zh (cR (l:=[1,1,1,2,3,4,5,6,7,8,16,17,18,19,20,21,22,23,24,25,32,33,34,35,36,37,38,39,40,48,49,50,51,52,53,64,65,66,67,68,0,69]) hop)) rfl ?_;refine Z_4 ?_;refine Zra ?_;exact⟨⟨_,rfl,hmem⟩,rfl⟩
theorem Ci(n v:Int)(hv:u32 v)(w:World):Ctr prog 96 [.int .i64 n,.int .u32 v] w [] (λx cs=>(∃op nn,x= .agg #[.int .i64 op,.int .u32 nn]/\u32 nn/\op∈qU)/\cs=[]):=by
 obtain⟨v,rfl⟩:∃m:Nat,v=m:=ar hv.1;have hv2:(v:Int)<=4294967295:=hv.2;obtain⟨x,hx,hxu⟩:∃x,([(v:Int),((v%256:Nat):Int),((32768+v%64:Nat):Int),((v%4096:Nat):Int)]:List Int)[v%4]? =some x/\u32 x:=by
  have:v%4=0\/v%4=1\/v%4=2\/v%4=3:=by omega
  rcases this with h|h|h|h<;>rw[h]
  .exact⟨_,rfl,hv⟩
  .exact⟨_,rfl,jP Wq1⟩
  .exact⟨_,rfl,jP Wq1⟩
  exact⟨_,rfl,jP Wq1⟩
 refine bN func96 rfl ntmps96 rfl (Inv.start w) ?_;refine Z_2 ?_;refine ZN λb4=>?_;refine Z_5 ?_;refine ZS (λw hi=>Hb n w) ?_;rintro _ _ ⟨_,⟨⟨op,rfl,hop⟩,rfl⟩,rfl⟩;refine ZA ?_;refine ZN λb5=>?_
 refine ZM ?_;refine Z_7 ?_;refine ZS (λw hi=>Ay op w) ?_;rintro _ _ ⟨_,⟨⟨z,rfl⟩,rfl⟩,rfl⟩;refine Z_9 ?_;refine ZW ?_ ?_<;>intro hc3
 .refine Z_3 ?_;refine Zy (ij (Zv rfl) (Zv rfl) Wq1 (show _=((v%256:Nat):Int)from by rw[aG Wq1];omega)) ?_;refine Z_1 ?_;refine ZL ?_;refine rj ?_;refine ZW ?_ ?_<;>intro hc5
  .refine Z_2 ?_;refine Zy (ij (Zv rfl) (Zv rfl) Wq1 (show _=((v%12:Nat):Int)from by rw[aG Wq1];omega)) ?_;refine Z_1 ?_;refine ZL ?_;refine gy ?_;refine ZW ?_ ?_<;>intro hc7
   .refine Z_2 ?_;refine Zy (ij (Zv rfl) (Zv rfl) Wq1 (show _=((v%40:Nat):Int)from by rw[aG Wq1];omega)) ?_;refine Zy (df (Zv rfl) (Zv rfl) (show _=((v%40+240:Nat):Int)from by rw[u32_wrap_id _ Wq1 Wq1];omega)) ?_;refine Zy (ij (Zv rfl) (Zv rfl) Wq1 (show _=(((v%40+240)%256:Nat):Int)from by rw[aG Wq1];omega)) ?_;refine Z_1 ?_;refine ZL ?_;exact Wq46
   exact Wq46
  refine gy ?_;refine ZW ?_ ?_<;>intro hc7
  .refine Z_2 ?_;refine Zy (ij (Zv rfl) (Zv rfl) Wq1 (show _=((v%40:Nat):Int)from by rw[aG Wq1];omega)) ?_;refine Zy (df (Zv rfl) (Zv rfl) (show _=((v%40+240:Nat):Int)from by rw[u32_wrap_id _ Wq1 Wq1];omega)) ?_;refine Zy (ij (Zv rfl) (Zv rfl) Wq1 (show _=(((v%40+240)%256:Nat):Int)from by rw[aG Wq1];omega)) ?_;refine Z_1 ?_;refine ZL ?_;exact Wq46
  exact Wq46
 refine Z_6 ?_;refine ZW ?_ ?_<;>intro hc9
 .refine Z_3 ?_;refine Zy (ij (Zv rfl) (Zv rfl) Wq1 (show _=((v%256:Nat):Int)from by rw[aG Wq1];omega)) ?_;refine ZA ?_;refine Zy (ij (Zv rfl) (Zv rfl) Wq1 (show _=((v%64:Nat):Int)from by rw[aG Wq1];omega)) ?_;refine Zy (df (Zv rfl) (Zv rfl) (show _=((32768+v%64:Nat):Int)from by rw[u32_wrap_id _ Wq1 Wq1];omega)) ?_;refine ZA ?_;refine Zy (ij (Zv rfl) (Zv rfl) Wq1 (show _=((v%4096:Nat):Int)from by rw[aG Wq1];omega)) ?_;refine jO ?_;rintro _ _ ⟨b51,rfl,rfl⟩;refine ZA ?_;refine Zy (ij (Zv rfl) (Zv rfl) Wq1 (show _=((v%4:Nat):Int)from by rw[aG Wq1];omega)) ?_;refine Zy (cw (j:=(v%4)) (sz:=1) (r:=(v%4)) rfl Zrf (Zv rfl) (Zv rfl) Wq4 Wq4 Wq1) ?_;refine dN (bQ Zrf Zv0) (dm Zh (cR (l:=[(v:Int),((v%256:Nat):Int),((32768+v%64:Nat):Int),((v%4096:Nat):Int)]) hx)) rfl ?_;refine Z_1 ?_;refine ZL ?_;exact Wq46
 exact Wq46
end Go.Proofs.YtkegldppffignaaGreatDoor
namespace Go.Ink
open Go.RowKit
end Go.Ink
namespace Go.Proofs.YtkegldppffignaaGreatDoor
open Go.RowKit Go.Ink Go.Proofs.Tryz
attribute [local irreducible] OpY bS
end Go.Proofs.YtkegldppffignaaGreatDoor
namespace Go.Ink
open Go.RowKit
section
variable {n:Nat} {op nn:Int} {s:St} {U:Mmu} {d:Dev}
end
theorem jo{W:World}{k:IntKind}{A:Option Addr}{c:Nat}{b:List Int}(h:Rd W k A b.length c b)(m:Nat):Rd W k A (b.take m).length c (b.take m):=by
 refine⟨by simp[ints],?_,h.max,λe=>?_,λad e j u hu=>h.at_ ad e j u ?_⟩
 .have:=h.cap;rw[aB];omega
 .have:=h.nil e;rw[aB];omega
 unfold ints at hu|-;rw[bh]at hu|-;rw[List.getElem?_take]at hu;by_cases hj:j<m
 .simpa[hj]using hu
 simp[hj]at hu
end Go.Ink
namespace Go.Proofs.YtkegldppffignaaGreatDoor
open Go.RowKit Go.Ink Go.Proofs.Tryz
attribute [local irreducible] OpY bS
theorem tW(A:Option Addr)(c:Nat)(l:List Int)(k:Nat)(w:World)(hc:l.length<=c):Ctr prog 9 [.slice A l.length c,.int .i64 k] w [] (λv cs=>v= .slice A (l.take k).length c/\cs=[]):=by
 rw[aB,Nat.min_comm];refine bN func9 rfl ntmps9 rfl (Inv.start w) ?_;refine gy ?_;refine ZW ?_ ?_<;>intro hc1
 .simp only[aj]at hc1;have e:min l.length k=k:=by omega
  rw[e];refine Z_4 ?_;refine Zy (ge k rfl Zrf (Zv rfl) (Zv rfl) (λ_=>by first|rfl|omega) Wq4) ?_;refine Z_5 ?_;refine Zra ?_;exact de
 simp only[ah]at hc1;have e:min l.length k=l.length:=by omega
 rw[e];refine Z_9 ?_;refine Zra ?_;exact de
theorem Jo{n:Int}(h:(Lit.int .u8 n).wf=true):0<=n/\n<=255:=by
 simp only[Lit.wf,aL,aj]at h;have h1:IntKind.u8.min=0:=rfl;have h2:IntKind.u8.max=255:=rfl;rw[h1,h2]at h;exact h
theorem nj(b:Nat)(Ao:Option Addr)(co:Nat)(o:List Int)(Ai:Option Addr)(ni ci:Nat)(ho:o.length<=1000000000)(w:World)(h:(uc b Ao o.length co Ai ni ci).ok w)(h2:(b8 Ao co o).ok w):
  Ctr prog 18 [.pointer (some ⟨b,0,none⟩)] w [] (λv cs=>∃A' c',v= .slice A' o.length c'/\cs=[b8 A' c' o]):=by
 refine bN func18 rfl ntmps18 rfl (Inv.start w) ?_;refine dS ?_;refine uv ?_;refine ZS (λw hi=>nl Ao _ co o w (RdV.MZ (dk h2) hi) Wq1) ?_;rintro _ _ ⟨_,⟨A',c',rfl,rfl⟩,rfl⟩;refine Z_4 ?_;refine Zrb ([slv _ _ _ _ _ _]) ?_;exact⟨_,_,rfl,rfl⟩
theorem LC(b:Nat)(Ao:Option Addr)(no co:Nat)(Ai:Option Addr)(ci:Nat)(i:List Int)(ho:i.length<=1000000000)(w:World)(h:(uc b Ao no co Ai i.length ci).ok w)(h2:(b8 Ai ci i).ok w):
  Ctr prog 61 [.pointer (some ⟨b,0,none⟩)] w [] (λv cs=>∃A' c',v= .slice A' i.length c'/\cs=[b8 A' c' i]):=by
 refine bN func61 rfl ntmps61 rfl (Inv.start w) ?_;refine dS ?_;refine uv ?_;refine ZS (λw hi=>nl Ai _ ci i w (RdV.MZ (dk h2) hi) Wq1) ?_;rintro _ _ ⟨_,⟨A',c',rfl,rfl⟩,rfl⟩;refine Z_4 ?_;refine Zrb ([slv _ _ _ _ _ _]) ?_;exact⟨_,_,rfl,rfl⟩
theorem IC(b bd:Nat)(l:List Int)(w:World)(h:(EQ b bd).ok w)(h2:(Er bd l).ok w):
  Ctr prog 62 [.pointer (some ⟨b,0,none⟩)] w [] (λv cs=>∃A' c',v= .slice A' 1024 c'/\cs=[sl .u8 5 A' 1024 c' l]):=by
 refine bN func62 rfl ntmps62 rfl (Inv.start w) ?_;refine dS ?_;refine uv ?_;refine ZS (λw hi=>nl (some ⟨bd,0,none⟩) 1024 1024 l w (RdV.MZ (dk h2) hi) Wq5) ?_;rintro _ _ ⟨_,⟨A',c',rfl,rfl⟩,rfl⟩;refine Z_4 ?_;refine Zrb ([slv _ _ _ _ _ _]) ?_;exact⟨_,_,rfl,rfl⟩
end Go.Proofs.YtkegldppffignaaGreatDoor
namespace Go.Ink
open Go.RowKit
end Go.Ink
namespace Go.Proofs.YtkegldppffignaaGreatDoor
open Go.RowKit Go.Ink Go.Proofs.Tryz
attribute [local irreducible] OpY bS
end Go.Proofs.YtkegldppffignaaGreatDoor
namespace Go.Ink
open Go.RowKit
section
variable {n:Nat} {U:Mmu} {s:Sp}
end
section
variable {n:Nat} {U:Mmu} {s:Sp} {d:Dev}
theorem Dp:ik (List.replicate 64 false) 64=[]:=by rfl
end
theorem F5{w0:World}{S:List Nat}{cs:List bL}{e sz n c b:Nat}{ad:Addr}{xs vs:List Value}(hc:Has cs (slv e sz (some ad) n c xs))(hv:∀j v,vs[j]? =some v->xs[b+j]? =some v):∀w,Inv w0 S cs w->cells (ff (ad.add b) 0 vs) w:=λw hi=>
 kX λj v hj=>by
  rw[Nat.add_zero];exact(hi.rd hc).at_ ad rfl (b+j) v (hv j v hj)
end Go.Ink
namespace Go.Proofs.YtkegldppffignaaGreatDoor
open Go.RowKit Go.Ink Go.Proofs.Tryz
attribute [local irreducible] OpY bS
theorem IW(A A2:Option Addr)(c c2:Nat)(xs ys:List Int)(hx:u8s xs)(hy:u8s ys)(w:World)(h:Rd w .u8 A xs.length c xs)(h2:Rd w .u8 A2 ys.length c2 ys):
  Ctr prog 167 [.slice A xs.length c,.slice A2 ys.length c2] w [] (λv cs=>v= .bool (xs==ys)/\cs=[]):=by
 refine bN func167 rfl ntmps167 rfl (Inv.start w) ?_;refine Z_8 ?_;refine dU (λw hi=>jf (h.MZ hi)) (λhrd6=>?_);refine dN (je rfl rfl rfl Zv0 hrd6) (λw hi=>RdV.M8 (h.MZ hi)) rfl ?_;refine ZA ?_;refine dU (λw hi=>jf (h2.MZ hi)) (λhrd8=>?_);refine dN (je rfl rfl rfl Zv0 hrd8) (λw hi=>RdV.M8 (h2.MZ hi)) rfl ?_;refine Zy (my rfl (Zv rfl) (Zv rfl) (kQ hx hy)) ?_;refine Z_4 ?_;refine Zra ?_;exact de
end Go.Proofs.YtkegldppffignaaGreatDoor
namespace Go.Ink
open Go.RowKit
def uy:List Int:=[0,1,28,2,29,14,24,3,30,22,20,15,25,17,4,8,31,27,13,23,21,19,16,7,26,12,18,6,11,5,10,9]
def xi(b:Nat):Nat->Nat->Option Nat
 |_,0=>none
 |k,m+1=>bif b/2^k%2==1 then some k else xi b (k+1) m
def pB(b:Nat):Option Nat:=xi b 0 8
def tzAnd(x:Int):Int:=bits .and .u32 x (IntKind.u32.wrap (0 - x))
def tzMul(x:Int):Int:=IntKind.u32.wrap (tzAnd x*125613361)
def Fi(x:Int):Int:=(tzMul x).fdiv (2^(min (Int.toNat 27) IntKind.u32.bits))
def tzSay(x:Nat):Bool:=x==0||match pB x with
 |some k=>decide (0<=Fi x)&&decide (Fi x<32)&&(uy[(Fi x).toNat]? ==some (k:Int))&&decide (k<8)
 |none=>false
theorem tz_all:(List.range 256).all tzSay=true:=by decide+kernel
theorem Fh{x:Nat}(h0:0<x)(h:x<256):∃k j:Nat,pB x=some k/\k<8/\Fi x=(j:Int)/\j<32/\uy[j]? =some (k:Int):=by
 have h1:=bo.1 tz_all x (List.mem_range.2 h);have e:(x==0)=false:=by simp;omega
 unfold tzSay at h1;rw[e,Bool.false_or]at h1;cases hl:pB x with
 |none=>rw[hl]at h1;cases h1
 |some k=>
  rw[hl]at h1;simp only[aL,aj,beq_iff_eq]at h1;obtain⟨⟨⟨h2,h3⟩,h4⟩,h5⟩:=h1;exact⟨k,(Fi x).toNat,rfl,h5,by omega,by omega,h4⟩
theorem KL:pB 0=none:=by decide
def Hj(d:Dev):Option Nat:=pB (bits .and .u32 d.M5 d.mask).toNat
def Dev.tick(d:Dev)(count:Int):Dev:=bif(d.timer==0)||decide (IntKind.u32.wrap count<d.timer)then d else{d with timer:=0,M5:=bits .or .u32 d.M5 1}
def told(s:St)(d:Dev):St:=match Hj d with
 |some k=>bif s.ie then s.M3 ((16+k:Nat):Int) 0 else s
 |none=>s
structure zG where
 s:St
 place:Int
 runs:Bool
 u:Mmu
 d:Dev
def St.space(s:St):Sp:=⟨s.MU,s.MQ,s.root.toNat⟩
def mf(n:Nat)(s:St)(U:Mmu)(d:Dev):zG:=
 let q:=cP n U s.space s.pc.toNat 1
 bif q.1.2.MR !=0 then⟨s.next.M3 q.1.2.MR q.1.2.addr,0,false,q.2,d⟩else⟨s,q.1.1,true,q.2,d⟩
def dI(n:Nat)(s:St)(U:Mmu)(d:Dev):zG:=
 bif !s.right||s.halted then⟨s,0,false,U,d⟩else mf n (told s (d.tick s.count)) U (d.tick s.count)
def zI:List Int->Int
 |[]=>0
 |b::l=>b+256*zI l
def dw(b:List Int):Option ((Int×Int)×Nat):=
 match b with
 |[]=>none
 |op::l=>bif cA op==0 then none else bif decide ((l.length:Int)+1<cA op)then none else some ((op,zI (l.take ((cA op).toNat - 1))),(cA op).toNat)
def cZ(n:Nat)(M:Mem)(p:Nat):Option ((Int×Int)×Nat):=
 bif decide (p/64<n)then dw (((M.data.drop (p/64*64)).take 64).drop (p%64))else none
def fN(op:Int):Bool:=(decide (32<=op)&&decide (op<=40))||(decide (64<=op)&&decide (op<=69))
def jg(op:Int)(r:Res)(MY was:Int):Bool:=bif fN op||r.NN||r.device||r.s.halted||r.MK.contains MY then false else(r.s.pc/64==was/64)
def dZ(n:Nat)(MY:Nat):Nat->St->Nat->Mmu->Dev->St×Mmu×Dev
 |0,s,_,U,d=>(s,U,d)
 |k+1,s,p,U,d=>match cZ n U.m p with
  |none=>(s.next.M3 1 0,U,d)
  |some ((op,nn),sz)=>
   let q:=mq n s op nn U d
   bif jg op q.1 MY s.pc then dZ n MY k q.1.s ((p+sz)%4294967296) q.2.1 q.2.2 else(q.1.s,q.2.1,q.2.2)
def cT(n:Nat)(s:St)(U:Mmu)(d:Dev):St×Mmu×Dev:=
 let b:=dI n s U d
 bif b.runs then dZ n (b.place.toNat/64) 8 b.s b.place.toNat b.u b.d else(b.s,b.u,b.d)
def kK(n:Nat)(m:Int)(from_:Int):Nat->St×Mmu×Dev->St×Mmu×Dev
 |0,q=>q
 |k+1,q=>bif decide (0<m)&& !q.1.halted&&decide (IntKind.u64.wrap (q.1.count - from_)<m)then kK n m from_ k (cT n q.1 q.2.1 q.2.2)else q
def dB(op:Int):Bool:=bif(bif decide (0<=op)then decide (op<=8)else false)then true else bif(bif bif decide (16<=op)then decide (op<=25)else false then op !=24 else false)then true else(bif decide (32<=op)then decide (op<=40)else false)
theorem jp{op:Int}(h:dB op=true):(0<=op/\op<=8)\/(16<=op/\op<=23)\/op=25\/(32<=op/\op<=40):=by
 unfold dB at h;by_cases h1:0<=op<;>by_cases h2:op<=8<;>by_cases h3:16<=op<;>by_cases h4:op<=25<;>by_cases h5:op=24<;>by_cases h6:32<=op<;>by_cases h7:op<=40<;>simp[h1,h2,h3,h4,h5,h6,h7]at h<;>omega
theorem pw{op:Int}(h:dB op=true):op=0\/op=1\/op=2\/op=3\/op=4\/op=5\/op=6\/op=7\/op=8\/(16<=op/\op<=23)\/op=25\/op=32\/(33<=op/\op<=37)\/op=38\/op=39\/op=40:=by
 rcases jp h with h|h|h|h<;>omega
theorem wJ{α:Type}{p:List α->Prop}(h0:p [])(hs:∀l x,p l->p (l++[x]))(l:List α):p l:=by
 have h:∀m:List α,p m.reverse:=λm=>by
  induction m with
  |nil=>exact h0
  |cons x m ih=>rw[List.reverse_cons];exact hs _ x ih
 have:=h l.reverse;rwa[List.reverse_reverse]at this
structure II where
 op:Int
 dst:Int
 a:Int
 b:Int
 imm:Int
structure Sd where
 l:List Int
 MN:Int
 high:Int
structure Lw where
 code:List II
 d:Sd
 r:Sd
 flags:Int
 target:Int
 branch:Int
def fj(k:Int)(code:List II)(s:Sd):Int×List II×Sd:=
 match s.l.getLast? with
 |some n=>(n,code,⟨s.l.dropLast,s.MN,s.high⟩)
 |none=>(code.length,code++[⟨k,code.length,0,0,IntKind.u32.wrap s.MN⟩],⟨[],s.MN+1,s.high⟩)
def Sd.put(s:Sd)(l:List Int):Sd:=⟨s.l++l,s.MN,s.high⟩
def Sd.top(s:Sd):Sd:=⟨s.l,s.MN,max s.high ((s.l.length:Int) - s.MN)⟩
def Lw.MP(w:Lw):Int×Lw:=((fj 1 w.code w.d).1,⟨(fj 1 w.code w.d).2.1,(fj 1 w.code w.d).2.2,w.r,w.flags,w.target,w.branch⟩)
def Lw.Nn(w:Lw):Int×Lw:=((fj 2 w.code w.r).1,⟨(fj 2 w.code w.r).2.1,w.d,(fj 2 w.code w.r).2.2,w.flags,w.target,w.branch⟩)
def Lw.Nu(w:Lw)(l:List Int):Lw:=⟨w.code,w.d.put l,w.r,w.flags,w.target,w.branch⟩
def Lw.N1(w:Lw)(l:List Int):Lw:=⟨w.code,w.d,w.r.put l,w.flags,w.target,w.branch⟩
def Lw.add(w:Lw)(op a b imm:Int):Lw:=⟨w.code++[⟨op,w.code.length,a,b,imm⟩],w.d,w.r,w.flags,w.target,w.branch⟩
def Lw.here(w:Lw):Int:=w.code.length
def Lw.wfl(w:Lw)(x:Int):Lw:=⟨w.code,w.d,w.r,x,w.target,w.branch⟩
def Lw.wtg(w:Lw)(x:Int):Lw:=⟨w.code,w.d,w.r,w.flags,x,w.branch⟩
def Lw.wbr(w:Lw)(x:Int):Lw:=⟨w.code,w.d,w.r,w.flags,w.target,x⟩
def Lw.MT(w:Lw):Lw:=⟨w.code,w.d.top,w.r.top,w.flags,w.target,w.branch⟩
def Lw.reckon(w:Lw)(op a b:Int):Lw:=
 let w1:=(w.add 4 a b op).wfl w.here
 bif op !=25 then(w1.add 3 a b op).Nu [w1.here]else w1
def Lw.go(w:Lw)(op n next:Int):Lw:=
 bif op==1||op==2 then(w.add 0 0 0 n).Nu [w.here]else
 bif op==3 then w.MP.2.Nu [w.MP.1,w.MP.1]else
 bif op==4 then w.MP.2 else
 bif op==5 then w.MP.2.MP.2.Nu [w.MP.1,w.MP.2.MP.1]else
 bif op==6 then w.MP.2.MP.2.Nu [w.MP.2.MP.1,w.MP.1,w.MP.2.MP.1]else
 bif op==7 then w.MP.2.N1 [w.MP.1]else
 bif op==8 then w.Nn.2.Nu [w.Nn.1]else
 bif decide (16<=op)&&decide (op<=25)then w.MP.2.MP.2.reckon op w.MP.2.MP.1 w.MP.1 else
 bif op==38 then(w.add 0 0 0 next).N1 [w.here]else
 bif op==39 then w.Nn.2.wtg w.Nn.1 else
 bif op==40 then w.MP.2.wtg w.MP.1 else
 bif decide (33<=op)&&decide (op<=37)then w.wbr op else w
def Lw.one(w:Lw)(op n next:Int):Lw:=(w.go op n next).MT
def k9(D R V:List Int)(x:II):Int:=
 bif x.op==0 then x.imm else bif x.op==1 then D.getD (D.length - 1 - x.imm.toNat) 0 else bif x.op==2 then R.getD (R.length - 1 - x.imm.toNat) 0 else
 bif x.op==3 then(iN x.imm (V.getD x.a.toNat 0) (V.getD x.b.toNat 0)).1 else(iN x.imm (V.getD x.a.toNat 0) (V.getD x.b.toNat 0)).2.1
def Ni(D R:List Int)(code:List II):List Int:=code.foldl (λV x=>V++[k9 D R V x]) []
section
variable {D R:List Int}
theorem lv(code:List II)(x:II):Ni D R (code++[x])=Ni D R code++[k9 D R (Ni D R code) x]:=by simp[Ni]
theorem rH(code:List II):(Ni D R code).length=code.length:=by
 refine wJ (p:=λcode=>(Ni D R code).length=code.length) rfl (λl x ih=>?_) code;rw[lv];simp[ih]
theorem Bz(c e:List II):∃m,Ni D R (c++e)=Ni D R c++m:=by
 refine wJ (p:=λe=>∃m,Ni D R (c++e)=Ni D R c++m) ⟨[],by simp⟩ (λl x ih=>?_) e;obtain⟨m,hm⟩:=ih;rw[<-ap,lv,hm];exact⟨_,ap ..⟩
def II.in_(n:Int)(code:List II):Prop:=0<=n/\n<(code.length:Int)
def eB(D R:List Int)(code:List II)(n:Int):Int:=(Ni D R code).getD n.toNat 0
theorem iv{c e:List II}{n:Int}(h:II.in_ n c):eB D R (c++e) n=eB D R c n:=by
 obtain⟨m,hm⟩:=Bz (D:=D) (R:=R) c e;have hl:=rH (D:=D) (R:=R) c;have h2:n.toNat<(Ni D R c).length:=by have:=h.1;have:=h.2;omega
 unfold eB;rw[hm];simp only[aF];rw[bG h2]
theorem qY{c:List II}{n:Int}(e:List II)(h:II.in_ n c):II.in_ n (c++e):=⟨h.1,by have:=h.2;simp;omega⟩
theorem jD(c:List II)(x:II):eB D R (c++[x]) c.length=k9 D R (Ni D R c) x:=by
 unfold eB;rw[lv];have hl:=rH (D:=D) (R:=R) c;simp only[aF,aP];rw[<-hl,bC (aM _)];simp
theorem mZ(c:List II)(x:II):II.in_ (c.length:Int) (c++[x]):=⟨by omega,by simp;omega⟩
structure SI(D R D0:List Int)(code:List II)(s:Sd)(t:List Int):Prop where
 Oa:0<=s.MN
 N9:s.MN<=(D0.length:Int)
 eq:t=D0.take (D0.length - s.MN.toNat)++s.l.map (eB D R code)
 idx:∀n,n∈s.l->II.in_ n code
theorem SI.app{D0:List Int}{code:List II}{s:Sd}{t:List Int}(h:SI D R D0 code s t)(e:List II):SI D R D0 (code++e) s t:=
 ⟨h.Oa,h.N9,by rw[h.eq];congr 1;exact List.map_congr_left λn hn=>(iv (h.idx n hn)).symm,λn hn=>qY e (h.idx n hn)⟩
theorem SI.put{D0:List Int}{code:List II}{s:Sd}{t:List Int}(h:SI D R D0 code s t)(l:List Int)(hl:∀n,n∈l->II.in_ n code):SI D R D0 code (s.put l) (t++l.map (eB D R code)):=
 ⟨h.Oa,h.N9,by rw[h.eq];simp[Sd.put],λn hn=>by rcases aS.1 hn with h1|h1;exact h.idx n h1;exact hl n h1⟩
theorem SI.top{D0:List Int}{code:List II}{s:Sd}{t:List Int}(h:SI D R D0 code s t):SI D R D0 code s.top t:=⟨h.Oa,h.N9,h.eq,h.idx⟩
theorem SI.len{D0:List Int}{code:List II}{s:Sd}{t:List Int}(h:SI D R D0 code s t):(t.length:Int)=(D0.length:Int) - s.MN+(s.l.length:Int):=by
 have h1:=h.Oa;have h2:=h.N9;rw[h.eq];simp;omega
theorem Gn{D0:List Int}{k:Int}(hk:k=1/\D0=D\/k=2/\D0=R){code:List II}{s:Sd}{t:List Int}(h:SI D R D0 code s t)(hD:D0.length<=100)
  (hn:(fj k code s).2.2.MN<=(D0.length:Int)):
  ∃l x,t=l++[x]/\SI D R D0 (fj k code s).2.1 (fj k code s).2.2 l/\II.in_ (fj k code s).1 (fj k code s).2.1/\eB D R (fj k code s).2.1 (fj k code s).1=x/\∃e,(fj k code s).2.1=code++e:=by
 have h0:=h.Oa;have h1:=h.N9;have he:=h.eq;unfold fj at hn|-;cases hl:s.l.getLast? with
 |some n=>
  rw[hl]at hn;obtain⟨m,hm⟩:∃m,s.l=m++[n]:=List.getLast?_eq_some_iff.1 hl;refine⟨D0.take (D0.length - s.MN.toNat)++m.map (eB D R code),eB D R code n,?_,⟨h0,h1,?_,?_⟩,?_,rfl,[],?_⟩
  .rw[he,hm];simp
  .simp[hm]
  .intro j hj;rw[hm]at hj;exact h.idx j (by rw[hm];simp at hj|-;exact Or.inl hj)
  .exact h.idx n (by rw[hm];simp)
  simp
 |none=>
  rw[hl]at hn;have hs:s.l=[]:=List.getLast?_eq_none_iff.1 hl;have hn:s.MN+1<=(D0.length:Int):=hn;have hw:IntKind.u32.wrap s.MN=s.MN:=by rw[aE];omega
  rw[hs]at he;obtain⟨j,hj⟩:∃j:Nat,s.MN=j:=⟨s.MN.toNat,by omega⟩;have hv:eB D R (code++[⟨k,code.length,0,0,IntKind.u32.wrap s.MN⟩]) code.length=D0.getD (D0.length - 1 - j) 0:=by
   rw[jD,hw,hj];rcases hk with⟨rfl,rfl⟩|⟨rfl,rfl⟩<;>rfl
  refine⟨D0.take (D0.length - (j+1)),D0.getD (D0.length - 1 - j) 0,?_,⟨by show 0<=s.MN+1;omega,hn,?_,λn hn=>by cases hn⟩,mZ _ _,hv,_,rfl⟩
  .rw[he,hj];have e1:D0.length - ((j:Int)).toNat=(D0.length - (j+1))+1:=by omega
   rw[e1,List.map_nil,az,List.take_add_one];congr 1;have e2:D0.length - 1 - j=D0.length - (j+1):=by omega
   have e3:D0.length - (j+1)<D0.length:=by omega
   rw[e2,aF,ai e3];rfl
  show D0.take _=D0.take _++List.map _ [];rw[List.map_nil,az,show(s.MN+1).toNat=j+1 by omega]
structure LI(D R:List Int)(w:Lw)(td tr:List Int):Prop where
 d:SI D R D w.code w.d td
 r:SI D R R w.code w.r tr
def FL(D R:List Int)(f0:Int)(w:Lw)(f:Int):Prop:=w.flags= -1/\f=f0\/II.in_ w.flags w.code/\f=eB D R w.code w.flags
theorem FL.app{f0 f:Int}{w w':Lw}(h:FL D R f0 w f){e:List II}(hc:w'.code=w.code++e)(hf:w'.flags=w.flags):FL D R f0 w' f:=by
 rcases h with⟨h1,h2⟩|⟨h1,h2⟩
 .exact Or.inl ⟨by rw[hf,h1],h2⟩
 exact Or.inr ⟨by rw[hf,hc];exact qY e h1,by rw[hf,hc,iv h1,h2]⟩
theorem qm{w:Lw}{td tr:List Int}(h:LI D R w td tr)(hD:D.length<=100)(hn:w.MP.2.d.MN<=(D.length:Int)):
  ∃l x,td=l++[x]/\LI D R w.MP.2 l tr/\II.in_ w.MP.1 w.MP.2.code/\eB D R w.MP.2.code w.MP.1=x/\∃e,w.MP.2.code=w.code++e:=by
 obtain⟨l,x,h1,h2,h3,h4,e,h5⟩:=Gn (k:=1) (Or.inl ⟨rfl,rfl⟩) h.d hD hn;exact⟨l,x,h1,⟨h2,by have:=h.r.app e;rw[<-h5]at this;exact this⟩,h3,h4,e,h5⟩
theorem Gp{w:Lw}{td tr:List Int}(h:LI D R w td tr)(hR:R.length<=100)(hn:w.Nn.2.r.MN<=(R.length:Int)):
  ∃l x,tr=l++[x]/\LI D R w.Nn.2 td l/\II.in_ w.Nn.1 w.Nn.2.code/\eB D R w.Nn.2.code w.Nn.1=x/\∃e,w.Nn.2.code=w.code++e:=by
 obtain⟨l,x,h1,h2,h3,h4,e,h5⟩:=Gn (k:=2) (Or.inr ⟨rfl,rfl⟩) h.r hR hn;exact⟨l,x,h1,⟨by have:=h.d.app e;rw[<-h5]at this;exact this,h2⟩,h3,h4,e,h5⟩
theorem LI.Nu{w:Lw}{td tr:List Int}(h:LI D R w td tr)(l:List Int)(hl:∀n,n∈l->II.in_ n w.code):LI D R (w.Nu l) (td++l.map (eB D R w.code)) tr:=⟨h.d.put l hl,h.r⟩
theorem LI.N1{w:Lw}{td tr:List Int}(h:LI D R w td tr)(l:List Int)(hl:∀n,n∈l->II.in_ n w.code):LI D R (w.N1 l) td (tr++l.map (eB D R w.code)):=⟨h.d,h.r.put l hl⟩
theorem LI.add{w:Lw}{td tr:List Int}(h:LI D R w td tr)(op a b imm:Int):LI D R (w.add op a b imm) td tr:=⟨h.d.app _,h.r.app _⟩
theorem LI.MT{w:Lw}{td tr:List Int}(h:LI D R w td tr):LI D R w.MT td tr:=⟨h.d.top,h.r.top⟩
theorem LI.wfl{w:Lw}{td tr:List Int}(h:LI D R w td tr)(x:Int):LI D R (w.wfl x) td tr:=⟨h.d,h.r⟩
theorem LI.wtg{w:Lw}{td tr:List Int}(h:LI D R w td tr)(x:Int):LI D R (w.wtg x) td tr:=⟨h.d,h.r⟩
theorem LI.wbr{w:Lw}{td tr:List Int}(h:LI D R w td tr)(x:Int):LI D R (w.wbr x) td tr:=⟨h.d,h.r⟩
theorem LI.N4{w:Lw}{td tr:List Int}(h:LI D R w.MT td tr):(td.length:Int)<=(D.length:Int)+w.MT.d.high:=by
 have h1:=h.d.len;have h2:w.MT.d.MN=w.d.MN:=rfl;have h3:w.MT.d.l=w.d.l:=rfl;have h4:(w.d.l.length:Int) - w.d.MN<=w.MT.d.high:=Int.le_max_right _ _;rw[h2,h3]at h1;omega
theorem LI.lenR{w:Lw}{td tr:List Int}(h:LI D R w.MT td tr):(tr.length:Int)<=(R.length:Int)+w.MT.r.high:=by
 have h1:=h.r.len;have h2:w.MT.r.MN=w.r.MN:=rfl;have h3:w.MT.r.l=w.r.l:=rfl;have h4:(w.r.l.length:Int) - w.r.MN<=w.MT.r.high:=Int.le_max_right _ _;rw[h2,h3]at h1;omega
end
section
variable {s:St} {op nn:Int}
theorem MA{R:Run}(hs:s.right=true)(hp:dB op=true)(ho:fI op nn=true)(hm:yH s op nn=R)(ht:R.M3=Tr.none)(hv:R.device=false)
  (h1:(bY op).1.1<=s.d.length) (h2:(bY op).2.1<=s.r.length) (h3:s.d.length+(bY op).1.2<=16+(bY op).1.1) (h4:s.r.length+(bY op).2.2<=16+(bY op).2.1):
  doN s op nn=⟨R.s,false,false,[]⟩:=by
 have hn:iM s (bY op)=0:=by
  unfold iM;rw[show decide ((s.d.length:Int)<((bY op).1.1:Int))=false from aw Wq1,show decide ((s.r.length:Int)<((bY op).2.1:Int))=false from aw Wq1,
   show decide (16<(s.d.length:Int) - ((bY op).1.1:Int)+((bY op).1.2:Int))=false from aw Wq1,show decide (16<(s.r.length:Int) - ((bY op).2.1:Int)+((bY op).2.2:Int))=false from aw Wq1]
  rfl
 have hc:=jp hp;have e1:qt op=false:=by unfold qt;rw[show decide (65<=op)=false from aw Wq1];rfl
 have e2:(op==66)=false:=by simp;omega
 have e3:(op==67)=false:=by simp;omega
 unfold doN eH;rw[hs,ho,hn,e1,e2,e3,hm];show Mz s R=_;unfold Mz;rw[ht,hv]
 rfl
theorem vn(h:(16<=op/\op<=23)\/op=25)(R:Run):dK op nn R=none/\cJ op nn R=(true,bif op !=25 then(R.pop.pop.wfl (iN op R.pop.top R.top).2.1).push [(iN op R.pop.top R.top).1]else R.pop.pop.wfl (iN op R.pop.top R.top).2.1):=by
 have h:op=16\/op=17\/op=18\/op=19\/op=20\/op=21\/op=22\/op=23\/op=25:=by omega
 rcases h with rfl|rfl|rfl|rfl|rfl|rfl|rfl|rfl|rfl<;>exact⟨rfl,rfl⟩
theorem Ch(h:33<=op/\op<=37)(R:Run):dK op nn R=none/\cJ op nn R=(true,bif(cY op R.s.flags).1 then R.wpc (jQ R nn)else R):=by
 have h:op=33\/op=34\/op=35\/op=36\/op=37:=by omega
 rcases h with rfl|rfl|rfl|rfl|rfl<;>exact⟨rfl,rfl⟩
end
def ee(s:St)(op:Int):Int:=IntKind.u32.wrap (s.pc+IntKind.u32.wrap (cA op))
def qK(D R:List Int)(w:Lw)(op nn nx f:Int):Int:=
 bif(cY w.branch f).1 then IntKind.u32.wrap (nx+lI nn)else bif w.target== -1 then(bif op==32||op==38 then IntKind.u32.wrap (nx+lI nn)else nx)else eB D R w.code w.target
structure Bo(D R:List Int)(f0:Int)(s:St)(op nn:Int)(w':Lw)(s':St):Prop where
 did:doN s op nn=⟨s',false,false,[]⟩
 li:LI D R w' s'.d s'.r
 fl:FL D R f0 w' s'.flags
 pc:s'.pc=qK D R w' op nn (ee s op) s'.flags
 tg:w'.target= -1\/II.in_ w'.target w'.code
 going:op<32->w'.target= -1/\w'.branch=0
 rest:s'=⟨s'.pc,s'.d,s'.r,s'.flags,s.MQ,s.MU,s.ie,s.root,s.vec,s.epc,s.MR,s.addr,s.M1,s.eie,IntKind.u64.wrap (s.count+1),s.halted⟩
section
variable {D R:List Int} {f0:Int} {s:St} {op nn:Int} {w w':Lw}
theorem sb{nx f:Int}(hb:w'.branch=0)(ht:w'.target= -1)(h:(op==32||op==38)=false):qK D R w' op nn nx f=nx:=by
 unfold qK;rw[hb,ht,h];rfl
theorem i6(td tr:List Int)(hs:s.right=true)(hp:dB op=true)(ho:fI op nn=true)(hm:dK op nn (eY s op)=some (((eY s op).wd td).wr tr))
  (h1:(bY op).1.1<=s.d.length) (h2:(bY op).2.1<=s.r.length) (h3:s.d.length+(bY op).1.2<=16+(bY op).1.1) (h4:s.r.length+(bY op).2.2<=16+(bY op).2.1)
  (hl:LI D R w' td tr) (hf:FL D R f0 w' s.flags) (hb:w'.branch=0) (ht:w'.target= -1) (ho2:(op==32||op==38)=false):∃s',Bo D R f0 s op nn w' s':=
 ⟨(((eY s op).wd td).wr tr).s,MA hs hp ho (by grind [yH]) rfl rfl h1 h2 h3 h4,hl,hf,(sb hb ht ho2).symm,Or.inl ht,λ_=>⟨ht,hb⟩,rfl⟩
theorem Gq(w:Lw):w.d.MN<=w.MP.2.d.MN:=by
 show w.d.MN<=(fj 1 w.code w.d).2.2.MN
 grind [fj]
theorem nL{t l:List Int}{x:Int}(h:t=l++[x]):t.length=l.length+1:=by rw[h];simp
theorem w5{td tr:List Int}(h:LI D R w td tr)(hD:D.length<=100)(hn:w.MP.2.MP.2.d.MN<=(D.length:Int)):
  ∃l x y,td=(l++[x])++[y]/\LI D R w.MP.2.MP.2 l tr/\II.in_ w.MP.1 w.MP.2.MP.2.code/\eB D R w.MP.2.MP.2.code w.MP.1=y/\
   II.in_ w.MP.2.MP.1 w.MP.2.MP.2.code/\eB D R w.MP.2.MP.2.code w.MP.2.MP.1=x/\∃e,w.MP.2.MP.2.code=w.code++e:=by
 obtain⟨l1,y,a1,a2,a3,a4,e1,a5⟩:=qm h hD (Int.le_trans (Gq w.MP.2) hn)
 grind [qm,qY,iv]
theorem m8{R':Run}(hs:s.right=true)(hp:dB op=true)(ho:fI op nn=true)(hm:yH s op nn=R')(ht:R'.M3=Tr.none)(hv:R'.device=false)
  (h1:(bY op).1.1<=s.d.length) (h2:(bY op).2.1<=s.r.length) (h3:s.d.length+(bY op).1.2<=16+(bY op).1.1) (h4:s.r.length+(bY op).2.2<=16+(bY op).2.1)
  (hl:LI D R w' R'.s.d R'.s.r) (hf:FL D R f0 w' R'.s.flags) (hpc:R'.s.pc=qK D R w' op nn (ee s op) R'.s.flags) (htg:w'.target= -1\/II.in_ w'.target w'.code) (hgo:op<32->w'.target= -1/\w'.branch=0)
  (hr:R'.s=⟨R'.s.pc,R'.s.d,R'.s.r,R'.s.flags,s.MQ,s.MU,s.ie,s.root,s.vec,s.epc,s.MR,s.addr,s.M1,s.eie,IntKind.u64.wrap (s.count+1),s.halted⟩):∃s',Bo D R f0 s op nn w' s':=
 ⟨R'.s,MA hs hp ho hm ht hv h1 h2 h3 h4,hl,hf,hpc,htg,hgo,hr⟩
theorem lB(h:(16<=op/\op<=23)\/op=25)(w:Lw)(n nx:Int):w.go op n nx=w.MP.2.MP.2.reckon op w.MP.2.MP.1 w.MP.1:=by
 have h:op=16\/op=17\/op=18\/op=19\/op=20\/op=21\/op=22\/op=23\/op=25:=by omega
 rcases h with rfl|rfl|rfl|rfl|rfl|rfl|rfl|rfl|rfl<;>rfl
theorem kT(h:16<=op/\op<=23):bY op=((2,1),(0,0)):=by
 have h:op=16\/op=17\/op=18\/op=19\/op=20\/op=21\/op=22\/op=23:=by omega
 rcases h with rfl|rfl|rfl|rfl|rfl|rfl|rfl|rfl<;>rfl
theorem sT(h:(16<=op/\op<=23)\/op=25){l:List Int}{x y:Int}(hd:s.d=(l++[x])++[y]):
  yH s op nn=bif op !=25 then((eY s op).wd (l++[(iN op x y).1])).wfl (iN op x y).2.1 else((eY s op).wd l).wfl (iN op x y).2.1:=by
 have e0:eY s op=(eY s op).wd ((l++[x])++[y]):=congrArg (λt=>(eY s op).wd t) hd;unfold yH;rw[(vn h (eY s op)).1];show(bif(cJ op nn (eY s op)).1 then(cJ op nn (eY s op)).2 else _)=_;rw[(vn h (eY s op)).2];have e1:(eY s op).top=y:=(congrArg Run.top e0).trans (Run.top_wd _ _ _);have e2:(eY s op).pop=(eY s op).wd (l++[x]):=(congrArg Run.pop e0).trans (Run.pop_wd _ _ _);have e3:(eY s op).pop.top=x:=(congrArg Run.top e2).trans (Run.top_wd _ _ _);have e4:(eY s op).pop.pop=(eY s op).wd l:=(congrArg Run.pop e2).trans (Run.pop_wd _ _ _);rw[e1,e3,e4]
 rfl
theorem Cv{c:List II}{a b x y:Int}(k6:eB D R c a=x)(k4:eB D R c b=y):eB D R (c++[⟨4,c.length,a,b,op⟩]) c.length=(iN op x y).2.1:=by
 rw[jD,<-k6,<-k4];rfl
theorem alu_new{c:List II}{a b x y:Int}(k6:eB D R c a=x)(k4:eB D R c b=y):eB D R (c++[⟨3,c.length,a,b,op⟩]) c.length=(iN op x y).1:=by
 rw[jD,<-k6,<-k4];rfl
theorem jump_no(h:(16<=op/\op<=23)\/op=25):(op==32||op==38)=false:=by
 grind
theorem one_ok(hp:dB op=true)(ho:fI op nn=true)(hs:s.right=true)(h:LI D R w s.d s.r)(hf:FL D R f0 w s.flags)(hD:D.length<=16)(hR:R.length<=16)(ht:w.target= -1)(hb:w.branch=0)
  (n1:(w.one op nn (ee s op)).d.MN<=(D.length:Int)) (n2:(w.one op nn (ee s op)).r.MN<=(R.length:Int))
  (g1:(D.length:Int)+(w.one op nn (ee s op)).d.high<=16) (g2:(R.length:Int)+(w.one op nn (ee s op)).r.high<=16):∃s',Bo D R f0 s op nn (w.one op nn (ee s op)) s':=by
 obtain⟨q1,q2, -⟩:=St.fits hs;obtain⟨nx,hnx⟩:=Zgn (ee s op);rcases pw hp with rfl|rfl|rfl|rfl|rfl|rfl|rfl|rfl|rfl|hr|hr|rfl|hr|rfl|rfl|rfl
 .refine i6 s.d s.r hs hp ho rfl (aq _) (aq _) q1 q2 h.MT hf hb ht rfl
 .have h6:LI D R (w.one 1 nn nx) (s.d++[nn]) s.r:=by
   have h7:=((h.add 0 0 0 nn).Nu [w.here] (λn hn=>by rw[aK.1 hn];exact mZ _ _)).MT;rw[List.map_cons,List.map_nil,show eB D R (w.add 0 0 0 nn).code w.here=nn from jD _ _]at h7;exact h7
  have h8:=h6.N4;rw[hnx]at g1;refine i6 (s.d++[nn]) s.r hs hp ho rfl (aq _) (aq _) (show s.d.length+1<=16+0 from ?_) q2 (hnx▸h6) (hf.app (w':=w.one 1 nn (ee s 1)) rfl rfl) hb ht rfl;have h9:(((s.d++[nn]).length:Nat):Int)<=_:=h8;have h10:=Int.le_trans h9 g1
  grind
 .have h6:LI D R (w.one 2 nn nx) (s.d++[nn]) s.r:=by
   have h7:=((h.add 0 0 0 nn).Nu [w.here] (λn hn=>by rw[aK.1 hn];exact mZ _ _)).MT;rw[List.map_cons,List.map_nil,show eB D R (w.add 0 0 0 nn).code w.here=nn from jD _ _]at h7;exact h7
  have h8:=h6.N4;rw[hnx]at g1;refine i6 (s.d++[nn]) s.r hs hp ho rfl (aq _) (aq _) (show s.d.length+1<=16+0 from ?_) q2 (hnx▸h6) (hf.app (w':=w.one 2 nn (ee s 2)) rfl rfl) hb ht rfl;have h9:(((s.d++[nn]).length:Nat):Int)<=_:=h8;have h10:=Int.le_trans h9 g1
  grind
 .obtain⟨l,x,k1,k2,k3,k4,e,k5⟩:=qm h Wq1 n1;have h6:LI D R (w.one 3 nn nx) (l++[x,x]) s.r:=by
   have h7:=(k2.Nu [w.MP.1,w.MP.1] (by grind)).MT;rw[show[w.MP.1,w.MP.1].map (eB D R w.MP.2.code)=[x,x] by simp[k4]]at h7;exact h7
  have h8:(((l++[x,x]:List Int).length:Nat):Int)<=_:=h6.N4;rw[hnx]at g1;have h10:=Int.le_trans h8 g1;have h11:=nL k1;simp at h10;refine i6 (l++[x,x]) s.r hs hp ho ((congrArg (λt=>dK 3 nn ((eY s 3).wd t)) k1).trans (nZ nn (eY s 3) l x)) (show 1<=s.d.length by omega) (aq _) (show s.d.length+2<=16+1 by omega) q2 (hnx▸h6) (hf.app (w':=w.one 3 nn (ee s 3)) k5 rfl) hb ht rfl
 .obtain⟨l,x,k1,k2,k3,k4,e,k5⟩:=qm h Wq1 n1;have h6:LI D R (w.one 4 nn nx) (l) s.r:=by
   have h7:=k2.MT;exact h7
  have h8:(((l:List Int).length:Nat):Int)<=_:=h6.N4;rw[hnx]at g1;have h10:=Int.le_trans h8 g1;have h11:=nL k1;refine i6 (l) s.r hs hp ho ((congrArg (λt=>dK 4 nn ((eY s 4).wd t)) k1).trans (mF nn (eY s 4) l x)) (show 1<=s.d.length by omega) (aq _) (show s.d.length+0<=16+1 by omega) q2 (hnx▸h6) (hf.app (w':=w.one 4 nn (ee s 4)) k5 rfl) hb ht rfl
 .obtain⟨l,x,y,k1,k2,k3,k4,k5,k6,e,k7⟩:=w5 h Wq1 n1;have h6:LI D R (w.one 5 nn nx) (l++[y,x]) s.r:=by
   have h7:=(k2.Nu [w.MP.1,w.MP.2.MP.1] (by grind)).MT;rw[show[w.MP.1,w.MP.2.MP.1].map (eB D R w.MP.2.MP.2.code)=[y,x] by grind]at h7;exact h7
  have h8:(((l++[y,x]:List Int).length:Nat):Int)<=_:=h6.N4;rw[hnx]at g1;have h10:=Int.le_trans h8 g1;have h11:s.d.length=l.length+2:=by rw[k1];simp
  simp at h10;refine i6 (l++[y,x]) s.r hs hp ho ((congrArg (λt=>dK 5 nn ((eY s 5).wd t)) k1).trans (mD nn (eY s 5) l x y)) (show 2<=s.d.length by omega) (aq _) (show s.d.length+2<=16+2 by omega) q2 (hnx▸h6) (hf.app (w':=w.one 5 nn (ee s 5)) k7 rfl) hb ht rfl
 .obtain⟨l,x,y,k1,k2,k3,k4,k5,k6,e,k7⟩:=w5 h Wq1 n1;have h6:LI D R (w.one 6 nn nx) (l++[x,y,x]) s.r:=by
   have h7:=(k2.Nu [w.MP.2.MP.1,w.MP.1,w.MP.2.MP.1] (by grind)).MT;rw[show[w.MP.2.MP.1,w.MP.1,w.MP.2.MP.1].map (eB D R w.MP.2.MP.2.code)=[x,y,x] by grind]at h7;exact h7
  have h8:(((l++[x,y,x]:List Int).length:Nat):Int)<=_:=h6.N4;rw[hnx]at g1;have h10:=Int.le_trans h8 g1;have h11:s.d.length=l.length+2:=by rw[k1];simp
  simp at h10;refine i6 (l++[x,y,x]) s.r hs hp ho ((congrArg (λt=>dK 6 nn ((eY s 6).wd t)) k1).trans (mE nn (eY s 6) l x y)) (show 2<=s.d.length by omega) (aq _) (show s.d.length+3<=16+2 by omega) q2 (hnx▸h6) (hf.app (w':=w.one 6 nn (ee s 6)) k7 rfl) hb ht rfl
 .obtain⟨l,x,k1,k2,k3,k4,e,k5⟩:=qm h Wq1 n1;have h6:LI D R (w.one 7 nn nx) l (s.r++[x]):=by
   have h7:=(k2.N1 [w.MP.1] (by grind)).MT;rw[show[w.MP.1].map (eB D R w.MP.2.code)=[x] by simp[k4]]at h7;exact h7
  have h8:(((s.r++[x]:List Int).length:Nat):Int)<=_:=h6.lenR;rw[hnx]at g2;have h10:=Int.le_trans h8 g2;have h11:=nL k1;simp at h10;refine i6 l (s.r++[x]) hs hp ho ((congrArg (λt=>dK 7 nn ((eY s 7).wd t)) k1).trans (nY nn (eY s 7) l x)) (show 1<=s.d.length by omega) (aq _) (show s.d.length+0<=16+1 by omega) (show s.r.length+1<=16+0 by omega) (hnx▸h6) (hf.app (w':=w.one 7 nn (ee s 7)) k5 rfl) hb ht rfl
 .obtain⟨l,x,k1,k2,k3,k4,e,k5⟩:=Gp h Wq1 n2;have h6:LI D R (w.one 8 nn nx) (s.d++[x]) l:=by
   have h7:=(k2.Nu [w.Nn.1] (by grind)).MT;rw[show[w.Nn.1].map (eB D R w.Nn.2.code)=[x] by simp[k4]]at h7;exact h7
  have h8:(((s.d++[x]:List Int).length:Nat):Int)<=_:=h6.N4;rw[hnx]at g1;have h10:=Int.le_trans h8 g1;have h11:=nL k1;simp at h10;refine i6 (s.d++[x]) l hs hp ho ((congrArg (λt=>dK 8 nn ((eY s 8).wr t)) k1).trans (lP nn (eY s 8) l x)) (aq _) (show 1<=s.r.length by omega) (show s.d.length+1<=16+0 by omega) (show s.r.length+0<=16+1 by omega) (hnx▸h6) (hf.app (w':=w.one 8 nn (ee s 8)) k5 rfl) hb ht rfl
 .have hr2:(16<=op/\op<=23)\/op=25:=Or.inl hr;have e25:(op !=25)=true:=by simp;omega
  have ew:w.one op nn (ee s op)=(((((w.MP.2.MP.2.add 4 w.MP.2.MP.1 w.MP.1 op).wfl w.MP.2.MP.2.here).add 3 w.MP.2.MP.1 w.MP.1 op).Nu [((w.MP.2.MP.2.add 4 w.MP.2.MP.1 w.MP.1 op).wfl w.MP.2.MP.2.here).here])).MT:=by
   refine(congrArg Lw.MT (lB hr2 w nn _)).trans (congrArg Lw.MT ?_);unfold Lw.reckon;rw[e25]
   rfl
  rw[ew]at n1 n2 g1 g2|-;obtain⟨l,x,y,k1,k2,k3,k4,k5,k6,e,k7⟩:=w5 h Wq1 n1;have h6:=(((k2.add 4 w.MP.2.MP.1 w.MP.1 op).wfl w.MP.2.MP.2.here).add 3 w.MP.2.MP.1 w.MP.1 op).Nu [((w.MP.2.MP.2.add 4 w.MP.2.MP.1 w.MP.1 op).wfl w.MP.2.MP.2.here).here] (λn hn=>by
   rw[aK.1 hn];exact mZ _ _)
  have hv:=alu_new (D:=D) (R:=R) (op:=op) (c:=w.MP.2.MP.2.code++[⟨4,w.MP.2.MP.2.code.length,w.MP.2.MP.1,w.MP.1,op⟩]) ((iv k5).trans k6) ((iv k3).trans k4);rw[List.map_cons,List.map_nil]at h6;have h7:=Eq.mp (congrArg (λv=>LI D R ((((w.MP.2.MP.2.add 4 w.MP.2.MP.1 w.MP.1 op).wfl w.MP.2.MP.2.here).add 3 w.MP.2.MP.1 w.MP.1 op).Nu [((w.MP.2.MP.2.add 4 w.MP.2.MP.1 w.MP.1 op).wfl w.MP.2.MP.2.here).here]) (l++[v]) s.r) hv) h6;have h8:=h7.MT.N4;have h10:=Int.le_trans h8 g1;have h11:s.d.length=l.length+2:=by rw[k1];simp
  simp at h10;refine m8 (R':=((eY s op).wd (l++[(iN op x y).1])).wfl (iN op x y).2.1) hs hp ho (by grind [sT]) rfl rfl ?_ ?_ ?_ ?_ h7.MT ?_ ?_ (Or.inl ht) (λ_=>⟨ht,hb⟩) rfl
  .grind [kT]
  .grind [kT]
  .grind [kT]
  .grind [kT]
  .exact Or.inr ⟨qY _ (mZ _ _),((iv (mZ _ _)).trans (Cv k6 k4)).symm⟩
  refine Eq.symm (sb ?_ ?_ (jump_no hr2))
  .exact hb
  exact ht
 .subst hr;have ew:w.one 25 nn (ee s 25)=((w.MP.2.MP.2.add 4 w.MP.2.MP.1 w.MP.1 25).wfl w.MP.2.MP.2.here).MT:=rfl;rw[ew]at n1 n2 g1 g2|-;obtain⟨l,x,y,k1,k2,k3,k4,k5,k6,e,k7⟩:=w5 h Wq1 n1;have h7:=((k2.add 4 w.MP.2.MP.1 w.MP.1 25).wfl w.MP.2.MP.2.here).MT;have h11:s.d.length=l.length+2:=by rw[k1];simp
  refine m8 (R':=((eY s 25).wd l).wfl (iN 25 x y).2.1) hs hp ho (by rw[sT (Or.inr rfl) k1];rfl) rfl rfl (show 2<=s.d.length by omega) (aq _) (show s.d.length+0<=16+2 by omega) q2 h7 ?_ ?_ (Or.inl ht) (λ_=>⟨ht,hb⟩) rfl
  .exact Or.inr ⟨mZ _ _,(Cv k6 k4).symm⟩
  refine Eq.symm (sb ?_ ?_ rfl)
  .exact hb
  exact ht
 .refine m8 (R':=(eY s 32).wpc (jQ (eY s 32) nn)) hs hp ho rfl rfl rfl (aq _) (aq _) q1 q2 h.MT hf ?_ (Or.inl ht) (λh=>absurd h Wq5) rfl;show _=bif(cY w.branch s.flags).1 then _ else bif w.target== -1 then _ else _
  rw[hb,ht];rfl
 .have h5:op=33\/op=34\/op=35\/op=36\/op=37:=by omega
  have eg:w.one op nn (ee s op)=(w.wbr op).MT:=by rcases h5 with rfl|rfl|rfl|rfl|rfl<;>rfl
  have eq:bY op=((0,0),(0,0)):=by rcases h5 with rfl|rfl|rfl|rfl|rfl<;>rfl
  have ej:(op==32||op==38)=false:=by rcases h5 with rfl|rfl|rfl|rfl|rfl<;>rfl
  rw[eg]at n1 n2 g1 g2|-;have em:yH s op nn=bif(cY op s.flags).1 then(eY s op).wpc (jQ (eY s op) nn)else eY s op:=by
   unfold yH;rw[(Ch hr _).1];show(bif(cJ op nn (eY s op)).1 then(cJ op nn (eY s op)).2 else _)=_;rw[(Ch hr _).2];rfl
  cases hh:(cY op s.flags).1 with
  |true=>
   rw[hh]at em;refine m8 (R':=(eY s op).wpc (jQ (eY s op) nn)) hs hp ho em rfl rfl (by grind) (by grind) (by grind) (by grind) (h.wbr op).MT hf ?_ (Or.inl ht) (λh=>absurd h Wq1) rfl;show _=bif(cY op s.flags).1 then _ else _
   rw[hh];rfl
  |false=>
   rw[hh]at em;refine m8 (R':=eY s op) hs hp ho em rfl rfl (by grind) (by grind) (by grind) (by grind) (h.wbr op).MT hf ?_ (Or.inl ht) (λh=>absurd h Wq1) rfl;show _=bif(cY op s.flags).1 then _ else bif w.target== -1 then(bif op==32||op==38 then _ else _)else _
   rw[hh,ht,ej];rfl
 .have ew:w.one 38 nn (ee s 38)=((w.add 0 0 0 (ee s 38)).N1 [w.here]).MT:=rfl;rw[ew]at n1 n2 g1 g2|-;have h7:=((h.add 0 0 0 (ee s 38)).N1 [w.here] (λn hn=>by rw[aK.1 hn];exact mZ _ _)).MT;rw[List.map_cons,List.map_nil,show eB D R (w.add 0 0 0 (ee s 38)).code w.here=ee s 38 from jD _ _]at h7;have h10:=Int.le_trans h7.lenR g2;simp at h10;refine m8 (R':=((eY s 38).N6 (ee s 38)).wpc (jQ (eY s 38) nn)) hs hp ho rfl rfl rfl (aq _) (aq _) q1 (show s.r.length+1<=16+0 by omega) h7 (hf.app (w':=((w.add 0 0 0 (ee s 38)).N1 [w.here]).MT) rfl rfl) ?_ (Or.inl ht) (λh=>absurd h Wq5) rfl;show _=bif(cY w.branch s.flags).1 then _ else bif w.target== -1 then _ else _
  rw[hb,ht];rfl
 .have ew:w.one 39 nn (ee s 39)=(w.Nn.2.wtg w.Nn.1).MT:=rfl;rw[ew]at n1 n2 g1 g2|-;obtain⟨l,x,k1,k2,k3,k4,e,k5⟩:=Gp h Wq1 n2;have h11:=nL k1;have e0:eY s 39=(eY s 39).wr (l++[x]):=congrArg (λt=>(eY s 39).wr t) k1;have e1:(eY s 39).topR=x:=(congrArg Run.topR e0).trans (Run.topR_wr _ _ _);have e2:(eY s 39).Nn=(eY s 39).wr l:=(congrArg Run.Nn e0).trans (Run.popR_wr _ _ _);have em:yH s 39 nn=((eY s 39).wr l).wpc x:=by
   have:yH s 39 nn=(eY s 39).Nn.wpc (eY s 39).topR:=rfl;rw[this,e1,e2]
  have e3:(w.Nn.1== -1)=false:=by have:=k3.1;simp;omega
  refine m8 (R':=((eY s 39).wr l).wpc x) hs hp ho em rfl rfl (aq _) (show 1<=s.r.length by omega) q1 (show s.r.length+0<=16+1 by omega) (k2.wtg _).MT (hf.app (w':=(w.Nn.2.wtg w.Nn.1).MT) k5 rfl) ?_ (Or.inr k3) (λh=>absurd h Wq5) rfl;show x=bif(cY w.branch s.flags).1 then _ else bif w.Nn.1== -1 then _ else eB D R w.Nn.2.code w.Nn.1
  rw[hb,e3,k4];rfl
 have ew:w.one 40 nn (ee s 40)=(w.MP.2.wtg w.MP.1).MT:=rfl;rw[ew]at n1 n2 g1 g2|-;obtain⟨l,x,k1,k2,k3,k4,e,k5⟩:=qm h Wq1 n1;have h11:=nL k1;have e0:eY s 40=(eY s 40).wd (l++[x]):=congrArg (λt=>(eY s 40).wd t) k1;have e1:(eY s 40).top=x:=(congrArg Run.top e0).trans (Run.top_wd _ _ _);have e2:(eY s 40).pop=(eY s 40).wd l:=(congrArg Run.pop e0).trans (Run.pop_wd _ _ _);have em:yH s 40 nn=((eY s 40).wd l).wpc x:=by
  have:yH s 40 nn=(eY s 40).pop.wpc (eY s 40).top:=rfl;rw[this,e1,e2]
 have e3:(w.MP.1== -1)=false:=by have:=k3.1;simp;omega
 refine m8 (R':=((eY s 40).wd l).wpc x) hs hp ho em rfl rfl (show 1<=s.d.length by omega) (aq _) (show s.d.length+0<=16+1 by omega) q2 (k2.wtg _).MT (hf.app (w':=(w.MP.2.wtg w.MP.1).MT) k5 rfl) ?_ (Or.inr k3) (λh=>absurd h Wq5) rfl;show x=bif(cY w.branch s.flags).1 then _ else bif w.MP.1== -1 then _ else eB D R w.MP.2.code w.MP.1
 rw[hb,e3,k4];rfl
end
end Go.Ink
