/- Lemmas. -/
import Derived.Test.YtgpahfcaecojgaaGreatDoorPah
set_option linter.all false
set_option maxRecDepth 100000
set_option maxHeartbeats 4000000
namespace Go.Ink
open Go.RowKit Go.Proofs.Tryz
section
attribute [local irreducible] OpY bN
variable{n x:Int}
theorem QV{lo hi:Int}(hx:dF n lo hi=x)(w:World)(h0:0<=lo)(h1:lo<=hi)(h2:hi<=1000000000000):CW prog 17 [.i n,.i lo,.i hi] w (.i x):=hx▸eU n lo hi w h0 h1 h2
abbrev sX:List Int:=[1,1,1,2,3,4,5,6,7,8,16,17,18,19,20,21,22,23,24,25,32,33,34,35,36,37,38,39,40,48,49,50,51,52,53,64,65,66,67,68,0,69]
structure AskR where
 n:Int
 v:Int
 At:Option Addr
 ct:Nat
 ts:List Int
 raw:Bool
 op:Int
 nn:Int
def AskR.cells(a:AskR):List Value:=[.i a.n,.w a.v,.slice a.At a.ts.length a.ct,.bool a.raw,.i a.op,.w a.nn]
structure AskR.ok(W:World)(a:AskR):Prop where
 v:u32 a.v
 nn:u32 a.nn
 rd:Rd W .u32 a.At a.ts.length a.ct a.ts
 ts:∀x,x∈a.ts->u32 x
theorem Fq(op:Int)(w:World):Ctr prog 104 [.i op] w [] (λv cs=>(∃z,v= .i z)/\cs=[]):=by
 refine Zfs func104 ntmps104 ?_;refine Cc ?_ ?_<;>intro hc1
 .refine gm ?_;exact⟨⟨_,rfl⟩,rfl⟩
 refine om ?_;refine Zw3 ?_ ?_<;>intro hc3
 .refine gm ?_;exact⟨⟨_,rfl⟩,rfl⟩
 refine EC ?_;refine Zw3 ?_ ?_<;>intro hc5
 .refine gm ?_;exact⟨⟨_,rfl⟩,rfl⟩
 refine lC ?_;exact⟨⟨_,rfl⟩,rfl⟩
theorem Ov(n:Int)(w:World):Ctr prog 103 [.i n] w [] (λv cs=>(∃z,v= .i z/\z∈sX)/\cs=[]):=by
 obtain⟨x,hx⟩:=Zgn (dF n 0 1073741824);have hxr:=fU n 0 1073741824 bX;rw[hx]at hxr;have HW:=λw=>QV hx w bX bX bX
 obtain⟨k,hk⟩:∃k:Nat,x%42=k:=ao Wq1;have hk42:k<sX.length:=by show k<42;omega
 have hop:sX[k]? =some (sX[k]'hk42):=ae hk42;have hmem:sX[k]'hk42∈sX:=List.getElem_mem hk42;obtain⟨op,hq⟩:=Zgn (sX[k]'hk42);rw[hq]at hop hmem;have hk42:k<42:=hk42;refine Zfs func103 ntmps103 ?_;refine Z_7 ?_;refine jD ?_;rintro _ _ ⟨b4,rfl,rfl⟩;refine Z_7 ?_;refine ZSe (λw hi=>HW w) ?_;refine Z_2 ?_;refine Zy (jm (Zv rfl) (Zv rfl) Wq1 (show _=(k:Int)from by rw[aW Wq1];exact hk)) ?_;refine Wq472 ?_;refine dQ (bM Zrf Zv0) (dG Zh (cK (l:=[1,1,1,2,3,4,5,6,7,8,16,17,18,19,20,21,22,23,24,25,32,33,34,35,36,37,38,39,40,48,49,50,51,52,53,64,65,66,67,68,0,69]) hop)) rfl (Z_4 ?_);refine Zra ?_;exact⟨⟨_,rfl,hmem⟩,rfl⟩
theorem Iq(n v:Int)(hv:u32 v)(w:World):Ctr prog 73 [.i n,.w v] w [] (λx cs=>(∃op nn,x= .agg #[.i op,.w nn]/\u32 nn/\op∈sX)/\cs=[]):=by
 obtain⟨v,rfl⟩:∃m:Nat,v=m:=ao hv.1;have hv2:(v:Int)<=4294967295:=hv.2;obtain⟨x,hx,hxu⟩:∃x,([(v:Int),((v%256:Nat):Int),((32768+v%64:Nat):Int),((v%4096:Nat):Int)]:Li)[v%4]? =some x/\u32 x:=by
  have:v%4=0\/v%4=1\/v%4=2\/v%4=3:=by omega
  rcases this with h|h|h|h<;>rw[h]
  .exact⟨_,rfl,hv⟩
  .exact⟨_,rfl,jH Wq1⟩
  .exact⟨_,rfl,jH Wq1⟩
  exact⟨_,rfl,jH Wq1⟩
 refine Zfs func73 ntmps73 ?_;refine Z_2 ?_;refine ZN λb4=>?_;refine Z_5 ?_;refine ZSn (λw hi=>Ov n w) ?_;rintro _ _ ⟨⟨op,rfl,hop⟩,rfl⟩;refine ZA ?_;refine ZN λb5=>?_
 refine rf ?_;refine ZSn (λw hi=>Fq op w) ?_;rintro _ _ ⟨⟨z,rfl⟩,rfl⟩;refine Zw9 ?_ ?_<;>intro hc3
 .refine Z_3 ?_;refine UY ?_;refine iJ ?_;refine oU ?_;refine ZW ?_ ?_<;>intro hc5
  .refine Z_2 ?_;refine Zy (jm (Zv rfl) (Zv rfl) Wq1 (show _=((v%12:Nat):Int)from by rw[aW Wq1];omega)) ?_;refine iJ ?_;refine Cc ?_ ?_<;>intro hc7
   .exact Wq148
   exact Wq54
  refine Cc ?_ ?_<;>intro hc7
  .exact Wq148
  exact Wq54
 refine Zw6 ?_ ?_<;>intro hc9
 .refine Z_3 ?_;refine UY ?_;refine ZA ?_;refine Zy (jm (Zv rfl) (Zv rfl) Wq1 (show _=((v%64:Nat):Int)from by rw[aW Wq1];omega)) ?_;refine Zy (eK (Zv rfl) (Zv rfl) (show _=((32768+v%64:Nat):Int)from by rw[u32_wrap_id _ Wq1 Wq1];omega)) ?_;refine ZA ?_;refine Zy (jm (Zv rfl) (Zv rfl) Wq1 (show _=((v%4096:Nat):Int)from by rw[aW Wq1];omega)) ?_;refine jD ?_;rintro _ _ ⟨b51,rfl,rfl⟩;refine ZA ?_;refine Zy (jm (Zv rfl) (Zv rfl) Wq1 (show _=((v%4:Nat):Int)from by rw[aW Wq1];omega)) ?_;refine Zy (cw (j:=(v%4)) (sz:=1) (r:=(v%4)) rfl Zrf (Zv rfl) (Zv rfl) Wq2 Wq2 Wq1) ?_;refine dQ (bM Zrf Zv0) (dG Zh (cK (l:=[(v:Int),((v%256:Nat):Int),((32768+v%64:Nat):Int),((v%4096:Nat):Int)]) hx)) rfl (iJ ?_);exact Wq54
 exact Wq54
section
variable {n:Nat} {op nn:Int} {s:St} {U:Mmu} {d:Dev}
end
theorem iv{W:World}{k:IntKind}{A:Oa}{c:Nat}{b:Li}(h:Rd W k A b.length c b)(m:Nat):Rd W k A (b.take m).length c (b.take m):=by
 refine⟨by simp[ints],?_,h.max,λe=>?_,λad e j u hu=>h.at_ ad e j u ?_⟩
 .have:=h.cap;rw[aD];omega
 .have:=h.nil e;rw[aD];omega
 unfold ints at hu|-;rw[aX]at hu|-;rw[List.getElem?_take]at hu;by_cases hj:j<m
 .simpa[hj]using hu
 simp[hj]at hu
theorem tA(A:Oa)(c:Nat)(l:Li)(k:Nat)(w:World)(hc:l.length<=c):CW prog 18 [.slice A l.length c,.i k] w (.slice A (l.take k).length c):=by
 rw[aD,Nat.min_comm];refine Zfs func18 ntmps18 ?_;refine Cc ?_ ?_<;>intro hc1
 .simp only[ac]at hc1;have e:min l.length k=k:=by omega
  rw[e];refine Z_4 ?_;refine Zy (eC k rfl Zrf (Zv rfl) (Zv rfl) pe Wq2) ?_;exact xy
 simp only[aa]at hc1;have e:min l.length k=l.length:=by omega
 rw[e];refine Z_9 ?_;exact ru
theorem L5(h:(Lit.int .u8 n).wf=true):0<=n/\n<=255:=by
 simp only[Lit.wf,au,ac]at h;have h1:IntKind.u8.min=0:=rfl;have h2:IntKind.u8.max=255:=rfl;rw[h1,h2]at h;exact h
theorem r7{W:World}{v:Value}(h:uW prog W 22 v):∃(B:Oa) (cb:Nat) (b:Li),v= .slice B b.length cb/\Rd W .u8 B b.length cb b/\u8s b:=by
 obtain⟨B,cb,b,h1,h2, -,h3⟩:=h.ints (e:=5) (k:= .u8) rfl rfl rfl;exact⟨B,cb,b,h1,h2,λx hx=>L5 (h3 x hx)⟩
theorem Ej(b:Nat)(Ao:Oa)(co:Nat)(o:Li)(Ai:Oa)(ni ci:Nat)(ho:o.length<=1000000000)(w:World)(h:(BM b Ao o.length co Ai ni ci).ok w)(h2:(b8 Ao co o).ok w):
  Ctr prog 69 [.p b] w [] (λv cs=>∃A' c',v= .slice A' o.length c'/\cs=[b8 A' c' o]):=by
 refine Zfs func69 ntmps69 ?_;refine uh ?_;refine ZS (λw hi=>og Ao _ co o w (RdV.Wh (dx h2) hi) Wq1) ?_;exact Wq461
theorem TN(b:Nat)(Ao:Oa)(no co:Nat)(Ai:Oa)(ci:Nat)(i:Li)(ho:i.length<=1000000000)(w:World)(h:(BM b Ao no co Ai i.length ci).ok w)(h2:(b8 Ai ci i).ok w):
  Ctr prog 91 [.p b] w [] (λv cs=>∃A' c',v= .slice A' i.length c'/\cs=[b8 A' c' i]):=by
 refine Zfs func91 ntmps91 ?_;refine uh ?_;refine ZS (λw hi=>og Ai _ ci i w (RdV.Wh (dx h2) hi) Wq1) ?_;exact Wq461
theorem PD(b bd:Nat)(l:Li)(w:World)(h:(QM b bd).ok w)(h2:(Pz bd l).ok w):
  Ctr prog 92 [.p b] w [] (λv cs=>∃A' c',v= .slice A' 1024 c'/\cs=[sl .u8 5 A' 1024 c' l]):=by
 refine Zfs func92 ntmps92 ?_;refine uh ?_;refine ZS (λw hi=>og (sA bd) 1024 1024 l w (RdV.Wh (dx h2) hi) bX) ?_;exact Wq461
section
variable {n:Nat} {U:Mmu} {s:Sp}
end
section
variable {n:Nat} {U:Mmu} {s:Sp} {d:Dev}
theorem JO:ip (List.replicate 64 false) 64=[]:=by rfl
end
variable{w0:World}{cs:List bJ}{b:Nat}
theorem vt{S:List Nat}{e sz n c:Nat}{ad:Addr}{xs vs:List Value}(hc:Has cs (slv e sz (some ad) n c xs))(hv:∀j v,vs[j]? =some v->xs[b+j]? =some v):∀w,Inv w0 S cs w->cells (ee (ad.add b) 0 vs) w:=λw hi=>
 lm λj v hj=>by
  rw[Nat.add_zero];exact(hi.rd hc).at_ ad rfl (b+j) v (hv j v hj)
theorem Eu(A A2:Oa)(c c2:Nat)(xs ys:Li)(hx:u8s xs)(hy:u8s ys)(w:World)(h:Rd w .u8 A xs.length c xs)(h2:Rd w .u8 A2 ys.length c2 ys):
  CW prog 105 [.slice A xs.length c,.slice A2 ys.length c2] w (.bool (xs==ys)):=by
 refine Zfs func105 ntmps105 ?_;refine Z_8 ?_;refine dU (λw hi=>iP (h.Wh hi)) (λhrd6=>?_);refine dQ (iL rfl rfl rfl Zv0 hrd6) (λw hi=>RdV.Wy (h.Wh hi)) rfl (ZA ?_);refine dU (λw hi=>iP (h2.Wh hi)) (λhrd8=>?_);refine dQ (iL rfl rfl rfl Zv0 hrd8) (λw hi=>RdV.Wy (h2.Wh hi)) rfl (Zy (sM rfl (Zv rfl) (Zv rfl) (qk hx hy)) ?_);exact o7
def qf:List Int:=[0,1,28,2,29,14,24,3,30,22,20,15,25,17,4,8,31,27,13,23,21,19,16,7,26,12,18,6,11,5,10,9]
def Bk(b:Nat):Nat->Nat->Option Nat
 |_,0=>none
 |k,m+1=>bif b/2^k%2==1 then some k else Bk b (k+1) m
def qF(b:Nat):Option Nat:=Bk b 0 8
def tzAnd(x:Int):Int:=bits .and .u32 x (IntKind.u32.wrap (0 - x))
def tzMul(x:Int):Int:=IntKind.u32.wrap (tzAnd x*125613361)
def Mn(x:Int):Int:=(tzMul x).fdiv (2^(min (Int.toNat 27) IntKind.u32.bits))
def tzSay(x:Nat):Bool:=x==0||match qF x with
 |some k=>decide (0<=Mn x)&&decide (Mn x<32)&&(qf[(Mn x).toNat]? ==some (k:Int))&&decide (k<8)
 |none=>false
theorem tz_all:(List.range 256).all tzSay=true:=by decide+kernel
theorem Mm{x:Nat}(h0:0<x)(h:x<256):∃k j:Nat,qF x=some k/\k<8/\Mn x=(j:Int)/\j<32/\qf[j]? =some (k:Int):=by
 have h1:=aQ.1 tz_all x (List.mem_range.2 h);have e:(x==0)=false:=by simp;omega
 unfold tzSay at h1;rw[e,Bool.false_or]at h1;cases hl:qF x with
 |none=>rw[hl]at h1;cases h1
 |some k=>
  rw[hl]at h1;simp only[au,ac,beq_iff_eq]at h1;obtain⟨⟨⟨h2,h3⟩,h4⟩,h5⟩:=h1;exact⟨k,(Mn x).toNat,rfl,h5,by omega,by omega,h4⟩
theorem SG:qF 0=none:=by decide
def SV(d:Dev):Option Nat:=qF (bits .and .u32 d.Wx d.mask).toNat
def Dev.tick(d:Dev)(count:Int):Dev:=bif(d.timer==0)||decide (IntKind.u32.wrap count<d.timer)then d else{d with timer:=0,Wx:=bits .or .u32 d.Wx 1}
def told(s:St)(d:Dev):St:=match SV d with
 |some k=>bif s.ie then s.Wv ((16+k:Nat):Int) 0 else s
 |none=>s
structure EP where
 s:St
 place:Int
 runs:Bool
 u:Mmu
 d:Dev
def St.space(s:St):Sp:=⟨s.Wn,s.Wf,s.root.toNat⟩
def pL(n:Nat)(s:St)(U:Mmu)(d:Dev):EP:=
 let q:=cO n U s.space s.pc.toNat 1
 bif q.1.2.Wg !=0 then⟨s.next.Wv q.1.2.Wg q.1.2.addr,0,false,q.2,d⟩else⟨s,q.1.1,true,q.2,d⟩
def dO(n:Nat)(s:St)(U:Mmu)(d:Dev):EP:=
 bif !s.right||s.halted then⟨s,0,false,U,d⟩else pL n (told s (d.tick s.count)) U (d.tick s.count)
def ET:List Int->Int
 |[]=>0
 |b::l=>b+256*ET l
def eo(b:Li):Option ((Int×Int)×Nat):=
 match b with
 |[]=>none
 |op::l=>bif cF op==0 then none else bif decide ((l.length:Int)+1<cF op)then none else some ((op,ET (l.take ((cF op).toNat - 1))),(cF op).toNat)
def eV(n:Nat)(M:Mem)(p:Nat):Option ((Int×Int)×Nat):=
 bif decide (p/64<n)then eo (((M.data.drop (p/64*64)).take 64).drop (p%64))else none
def gN(op:Int):Bool:=(decide (32<=op)&&decide (op<=40))||(decide (64<=op)&&decide (op<=69))
def lQ(op:Int)(r:Res)(Wt was:Int):Bool:=bif gN op||r.Xr||r.device||r.s.halted||r.Wa.contains Wt then false else(r.s.pc/64==was/64)
def eQ(n:Nat)(Wt:Nat):Nat->St->Nat->Mmu->Dev->St×Mmu×Dev
 |0,s,_,U,d=>(s,U,d)
 |k+1,s,p,U,d=>match eV n U.m p with
  |none=>(s.next.Wv 1 0,U,d)
  |some ((op,nn),sz)=>
   let q:=wO n s op nn U d
   bif lQ op q.1 Wt s.pc then eQ n Wt k q.1.s ((p+sz)%4294967296) q.2.1 q.2.2 else(q.1.s,q.2.1,q.2.2)
def dL(n:Nat)(s:St)(U:Mmu)(d:Dev):St×Mmu×Dev:=
 let b:=dO n s U d
 bif b.runs then eQ n (b.place.toNat/64) 8 b.s b.place.toNat b.u b.d else(b.s,b.u,b.d)
def m7(n:Nat)(m:Int)(from_:Int):Nat->St×Mmu×Dev->St×Mmu×Dev
 |0,q=>q
 |k+1,q=>bif decide (0<m)&& !q.1.halted&&decide (IntKind.u64.wrap (q.1.count - from_)<m)then m7 n m from_ k (dL n q.1 q.2.1 q.2.2)else q
theorem Et(k:IntKind)(x y:Int):bits .or k x y=bits .or k y x:=by
 unfold bits;simp only[BitVec.or_comm]
theorem Bn:∀{l:Li},u8s l->0<=ET l/\ET l<((256^l.length:Nat):Int)
 |[],_=>by simp[ET]
 |b::l,h=>by
  obtain⟨h1,h2⟩:=Bn (l:=l) (λx hx=>h x (List.mem_cons_of_mem _ hx));have hb:=h b cP;have e:((256^(b::l).length:Nat):Int)=256*((256^l.length:Nat):Int):=by
   rw[aO,Nat.pow_succ,Nat.mul_comm];exact Int.natCast_mul 256 _
  rw[e];unfold ET;omega
def SzIn(x:Int):Prop:=x=0\/x=1\/x=2\/x=5
theorem jw(op:Int):SzIn (cF op):=by
 unfold cF
 repeat (refine bR SzIn (Or.inr (Or.inr (Or.inl rfl))) ?_)
 refine bR SzIn (Or.inr (Or.inr (Or.inr rfl))) ?_;exact bR SzIn (Or.inl rfl) (Or.inr (Or.inl rfl))
theorem shl8_or{N b:Int}(h0:0<=N)(h1:N<16777216)(hb:0<=b/\b<=255):bits .or .u32 (IntKind.u32.wrap (N*2^(min (Int.toNat 8) IntKind.u32.bits))) b=b+256*N:=by
 have e:(N*2^(min (Int.toNat 8) IntKind.u32.bits):Int)=N*256:=rfl;rw[e,u32_wrap_id _ Wq1 Wq1,Et,show bits .or .u32 b (N*256)=b+N*256 from by apply u32_or8<;>omega];omega
def fc(w:World):Prop:=RdV w 1 (sA 0) 32 32 (ints .u8 qf)
theorem fc.old{w:World}(h:fc w0)(hi:Inv w0 [] cs w):fc w:=RdV.Wh h hi
theorem Rj{j:Nat}{a:Int}(ht:fc w0)(h:qf[j]? =some a):∀w,Inv w0 [] cs w->cells [(⟨0,0+j*1,none⟩,.int .u8 a)] w:=by
 have h5:=dJ (w0:=w0) (cs:=cs) ht (cK h);rw[Addr.add_lit]at h5;exact h5
theorem tz_ok(x k:Nat)(h0:0<x)(h:x<256)(hk:qF x=some k)(w:World)(ht:fc w):CW prog 180 [.w (x:Int)] w (.i (k:Int)):=by
 obtain⟨k',j,e1,e5,e2,e3,e4⟩:=Mm h0 h;obtain rfl:k'=k:=ay (e1.symm.trans hk);refine Zfs func180 ntmps180 ?_;refine fb ?_;refine cy rfl ((aV.2 Wq1)) (Z_6 ?_);refine Zy (y_neg Zv0 rfl) ?_;refine ZA ?_;refine Zy (jF Zv0 Zv0 rfl) ?_;refine Zy (lJ (Zv rfl) (Zv rfl) Wq1 (show _=(j:Int)from e2)) ?_;refine Zy (dz (j:=j) (sz:=1) (r:=0+j*1) rfl Zrf (Zv rfl) (Zv rfl) Wq2 Wq2 Wq1) ?_;refine dQ (bM Zrf Zv0) (Rj ht e4) rfl (lD ?_);exact o7
theorem KH(b x:Nat)(p m:Int)(hx:bits .and .u32 p m=(x:Int))(h256:x<256)(w:World)(h:(s8 b p m).ok w)(ht:fc w):
  CW prog 164 [.p b] w (.tuple #[.i (((qF x).getD 0:Nat):Int),.bool (qF x).isSome]):=by
 refine Zfs func164 ntmps164 ?_;refine Z_7 ?_;refine uf ?_;refine ZFe 2 0 ?_;refine Zy5 3 rfl (bM Zrf (Zv rfl)) (dr la rfl) ?_;refine ZE 4 ?_;refine ZE 5 ?_;refine ZFe 6 1 ?_;refine Zy5 7 rfl (bM Zrf (Zv rfl)) (dr la rfl) ?_;refine Zy4 8 rfl (sN Zv0 Zv0 hx) ?_;refine ZE 9 ?_;refine dR ?_;refine Zw8 ?_ ?_<;>intro hc2
 .obtain rfl:x=0:=(by have:=kP hc2;omega);rw[SG];refine Z_8 ?_;exact lc
 have hx0:0<x:=(by have:=ne_of_beq_false hc2;omega);obtain⟨k,j,e1, -⟩:=Mm hx0 h256;have HT:=tz_ok x k hx0 h256 e1;rw[e1];refine Z_5 ?_;refine ZSe (λw hi=>HT w (ht.old hi)) ?_;refine Z_5 ?_;exact lc
theorem due_ok(b:Nat)(t count:Int):CI prog 179 [.p b,.int .u64 count] [Rc b t] (λv cs=>v= .bool (!((t==0)||decide (IntKind.u32.wrap count<t)))/\cs=[Rc b (bif(t==0)||decide (IntKind.u32.wrap count<t)then t else 0)]):=λw hi=>by
 refine Zfn func179 ntmps179 hi ?_;refine oU ?_;refine Zyn rfl rfl (cU rfl rfl (cA rfl) rfl) ?_;refine Zw8 ?_ ?_<;>intro hc1
 .rw[hc1];refine Z_7 ?_;exact BX
 rw[hc1];refine Z_7 ?_;refine ZL ?_;refine Z_8 ?_;exact BX
theorem lines0:nT [0]=1:=by decide
theorem tick_ok(D:rx)(bm:Nat)(X:ov)(d:Dev)(count:Int):CI prog 163 [.p D.bs,.int .u64 count] (mO D bm X d) (λv cs=>v= .tuple #[]/\cs=mO D bm X (d.tick count)):=λw hi=>by
 obtain⟨c,hc⟩:=Zgn (((d.timer==0)||decide (IntKind.u32.wrap count<d.timer)));have HD:=due_ok D.bti d.timer count;have HR:=λA c w hi h=>nU D.bi d.Wx d.mask A c [0] (λx hx=>by simp at hx;omega) w hi h
 rw[hc]at HD;rw[lines0]at HR;refine Zfn func163 ntmps163 hi ?_;refine Z_7 ?_;refine ZcM ([Rc D.bti d.timer]) (λw hi hin=>HD w hin) ?_;refine Z_2 ?_;refine ZW ?_ ?_<;>intro hc0
 .obtain rfl:c=false:=(by cases c with|false=>rfl|true=>cases hc0);have ht:d.tick count={d with timer:=0,Wx:=bits .or .u32 d.Wx 1}:=(by unfold Dev.tick;rw[hc];rfl);rw[ht];refine Z_5 ?_;refine jD ?_;rintro _ _ ⟨b14,rfl,rfl⟩;refine ZcM ([s8 D.bi d.Wx d.mask]) (λw hi hin=>HR (sA b14) 1 w hin (λw' hk=>hi.WZ Zi (Zhc (slv 3 1 (sA b14) 1 1 (ints .i64 [0]))) hk)) ?_;refine Zn (bO (mO D bm X {d with timer:=0,Wx:=bits .or .u32 d.Wx 1}) Zj ?_);exact Wq400
 obtain rfl:c=true:=(by cases c with|true=>rfl|false=>cases hc0);have ht:d.tick count=d:=(by unfold Dev.tick;rw[hc];rfl);rw[ht];refine Zc (bO (mO D bm X d) Zj ?_);exact Wq400
theorem Bx(op:Int)(w:World):CW prog 202 [.i op] w (.bool (gN op)):=by
 refine Zfs func202 ntmps202 ?_;refine om ?_;exact xy
theorem SY(A:Oa)(c:Nat)(l:Li)(x:Int)(w:World)(h:Rd w .i64 A l.length c l):Ctr prog 159 [.slice A l.length c,.i x] w [] (λv cs=>(∃z,v= .i z/\decide (0<=z)=l.contains x)/\cs=[]):=by
 have hlm:l.length<=maxLen:=aK h.cap h.max;simp only[maxLen]at hlm;refine Zfs func159 ntmps159 ?_;refine jl ?_;refine wLo (λk:Nat=>[(0,.slice A l.length c),(1,.i x),(7,.i (l.length:Int)),(8,.i (k:Int))]) (λ_=>[]) (λk=>k<=l.length/\∀j,j<k->l[j]? ≠some x) (λk=>l.length - k) (0) ⟨ap _,λj hj=>by omega⟩ ?_;rintro k ⟨hk,hno⟩;refine Zw6 ?_ ?_<;>intro hc2
 .simp only[ac]at hc2;have hkl:k<l.length:=Wq1;obtain⟨ad,rfl⟩:=h.some_ Wq1;have hy:l[k]? =some (l[k]'hkl):=ae hkl;obtain⟨y,hyy⟩:=Zgn (l[k]'hkl);rw[hyy]at hy;refine oU ?_;refine Ex ?_;refine dQ (bM Zrf Zv0) (dJ h (cK hy)) rfl (Zw3 ?_ ?_)<;>intro hc4
  .have e:=kP hc4;refine fb ?_;refine Zra ?_;exact⟨⟨_,rfl,by rw[aE (show(0:Int)<=(k:Int) by omega),List.contains_eq_mem,aE (e▸ak hy)]⟩,rfl⟩
  refine jS ?_;refine qMM (k+1) ⟨⟨by omega,λj hj=>by rcases Nat.lt_or_ge j k with h1|h1;exact hno j h1;obtain rfl:j=k:=Wq1;rw[hy];intro e;exact ne_of_beq_false hc4 (ay e).symm⟩,by omega⟩
 simp only[aa]at hc2;have hnm:l.contains x=false:=(by rw[List.contains_eq_mem,aa];intro hm;obtain⟨j,hj,e⟩:=List.getElem_of_mem hm;exact hno j Wq1 (by rw[ae hj,e]));refine oo ?_;exact⟨⟨_,rfl,by rw[hnm];rfl⟩,rfl⟩
theorem pI(A:Oa)(c:Nat)(l:Li)(x:Int)(w:World)(h:Rd w .i64 A l.length c l):CW prog 144 [.slice A l.length c,.i x] w (.bool (l.contains x)):=by
 refine Zfs func144 ntmps144 ?_;refine Z_9 ?_;refine ZSn (λw hi=>SY A c l x w (RdV.Wh h hi)) ?_;rintro _ _ ⟨⟨z,rfl,hz⟩,rfl⟩;refine Z_5 ?_;refine Zra ?_;exact⟨by rw[<-hz],rfl⟩
def dB(op:Int):Bool:=bif(bif decide (0<=op)then decide (op<=8)else false)then true else bif(bif bif decide (16<=op)then decide (op<=25)else false then op !=24 else false)then true else(bif decide (32<=op)then decide (op<=40)else false)
variable{op:Int}
theorem jc(h:dB op=true):(0<=op/\op<=8)\/(16<=op/\op<=23)\/op=25\/(32<=op/\op<=40):=by
 grind [dB]
theorem qx(h:dB op=true):op=0\/op=1\/op=2\/op=3\/op=4\/op=5\/op=6\/op=7\/op=8\/(16<=op/\op<=23)\/op=25\/op=32\/(33<=op/\op<=37)\/op=38\/op=39\/op=40:=by
 rcases jc h with h|h|h|h<;>omega
theorem Ab{α:Type}{p:List α->Prop}(h0:p [])(hs:∀l x,p l->p (l++[x]))(l:List α):p l:=by
 have h:∀m:List α,p m.reverse:=λm=>by
  induction m with
  |nil=>exact h0
  |cons x m ih=>grind
 have:=h l.reverse
 grind
structure II where
 op:Int
 dst:Int
 a:Int
 b:Int
 imm:Int
structure Sd where
 l:List Int
 Wi:Int
 high:Int
structure Lw where
 code:List II
 d:Sd
 r:Sd
 flags:Int
 target:Int
 branch:Int
def fD(k:Int)(code:List II)(s:Sd):Int×List II×Sd:=
 match s.l.getLast? with
 |some n=>(n,code,⟨s.l.dropLast,s.Wi,s.high⟩)
 |none=>(code.length,code++[⟨k,code.length,0,0,IntKind.u32.wrap s.Wi⟩],⟨[],s.Wi+1,s.high⟩)
def Sd.put(s:Sd)(l:Li):Sd:=⟨s.l++l,s.Wi,s.high⟩
def Sd.top(s:Sd):Sd:=⟨s.l,s.Wi,max s.high ((s.l.length:Int) - s.Wi)⟩
def Lw.We(w:Lw):Int×Lw:=((fD 1 w.code w.d).1,⟨(fD 1 w.code w.d).2.1,(fD 1 w.code w.d).2.2,w.r,w.flags,w.target,w.branch⟩)
def Lw.WN(w:Lw):Int×Lw:=((fD 2 w.code w.r).1,⟨(fD 2 w.code w.r).2.1,w.d,(fD 2 w.code w.r).2.2,w.flags,w.target,w.branch⟩)
def Lw.W7(w:Lw)(l:Li):Lw:=⟨w.code,w.d.put l,w.r,w.flags,w.target,w.branch⟩
def Lw.Xu(w:Lw)(l:Li):Lw:=⟨w.code,w.d,w.r.put l,w.flags,w.target,w.branch⟩
def Lw.add(w:Lw)(op a b imm:Int):Lw:=⟨w.code++[⟨op,w.code.length,a,b,imm⟩],w.d,w.r,w.flags,w.target,w.branch⟩
def Lw.here(w:Lw):Int:=w.code.length
def Lw.wfl(w:Lw)(x:Int):Lw:=⟨w.code,w.d,w.r,x,w.target,w.branch⟩
def Lw.wtg(w:Lw)(x:Int):Lw:=⟨w.code,w.d,w.r,w.flags,x,w.branch⟩
def Lw.wbr(w:Lw)(x:Int):Lw:=⟨w.code,w.d,w.r,w.flags,w.target,x⟩
def Lw.Wl(w:Lw):Lw:=⟨w.code,w.d.top,w.r.top,w.flags,w.target,w.branch⟩
def Lw.reckon(w:Lw)(op a b:Int):Lw:=
 let w1:=(w.add 4 a b op).wfl w.here
 bif op !=25 then(w1.add 3 a b op).W7 [w1.here]else w1
def Lw.go(w:Lw)(op n next:Int):Lw:=
 bif op==1||op==2 then(w.add 0 0 0 n).W7 [w.here]else
 bif op==3 then w.We.2.W7 [w.We.1,w.We.1]else
 bif op==4 then w.We.2 else
 bif op==5 then w.We.2.We.2.W7 [w.We.1,w.We.2.We.1]else
 bif op==6 then w.We.2.We.2.W7 [w.We.2.We.1,w.We.1,w.We.2.We.1]else
 bif op==7 then w.We.2.Xu [w.We.1]else
 bif op==8 then w.WN.2.W7 [w.WN.1]else
 bif decide (16<=op)&&decide (op<=25)then w.We.2.We.2.reckon op w.We.2.We.1 w.We.1 else
 bif op==38 then(w.add 0 0 0 next).Xu [w.here]else
 bif op==39 then w.WN.2.wtg w.WN.1 else
 bif op==40 then w.We.2.wtg w.We.1 else
 bif decide (33<=op)&&decide (op<=37)then w.wbr op else w
def Lw.one(w:Lw)(op n next:Int):Lw:=(w.go op n next).Wl
def lr(D R V:Li)(x:II):Int:=
 bif x.op==0 then x.imm else bif x.op==1 then D.getD (D.length - 1 - x.imm.toNat) 0 else bif x.op==2 then R.getD (R.length - 1 - x.imm.toNat) 0 else
 bif x.op==3 then(jR x.imm (V.getD x.a.toNat 0) (V.getD x.b.toNat 0)).1 else(jR x.imm (V.getD x.a.toNat 0) (V.getD x.b.toNat 0)).2.1
def WE(D R:Li)(code:List II):List Int:=code.foldl (λV x=>V++[lr D R V x]) []
section
variable {D R:Li}
theorem lM(code:List II)(x:II):WE D R (code++[x])=WE D R code++[lr D R (WE D R code) x]:=by simp[WE]
theorem uu(code:List II):(WE D R code).length=code.length:=by
 refine Ab (p:=λcode=>(WE D R code).length=code.length) rfl (λl x ih=>?_) code
 grind [lM]
theorem GX(c e:List II):∃m,WE D R (c++e)=WE D R c++m:=by
 refine Ab (p:=λe=>∃m,WE D R (c++e)=WE D R c++m) ⟨[],by simp⟩ (λl x ih=>?_) e
 grind [lM]
def II.in_(n:Int)(code:List II):Prop:=0<=n/\n<(code.length:Int)
def ez(D R:Li)(code:List II)(n:Int):Int:=(WE D R code).getD n.toNat 0
theorem gY{c e:List II}(h:II.in_ n c):ez D R (c++e) n=ez D R c n:=by
 obtain⟨m,hm⟩:=GX (D:=D) (R:=R) c e;have hl:=uu (D:=D) (R:=R) c;have h2:n.toNat<(WE D R c).length:=by have:=h.1;have:=h.2;omega
 grind [ez]
theorem tf{c:List II}(e:List II)(h:II.in_ n c):II.in_ n (c++e):=⟨h.1,by have:=h.2;simp;omega⟩
theorem ky(c:List II)(x:II):ez D R (c++[x]) c.length=lr D R (WE D R c) x:=by
 grind [ez,lM,uu]
theorem pj(c:List II)(x:II):II.in_ (c.length:Int) (c++[x]):=⟨by omega,by simp;omega⟩
structure SI(D R D0:Li)(code:List II)(s:Sd)(t:Li):Prop where
 XD:0<=s.Wi
 XC:s.Wi<=(D0.length:Int)
 eq:t=D0.take (D0.length - s.Wi.toNat)++s.l.map (ez D R code)
 idx:∀n,n∈s.l->II.in_ n code
variable{D0:Li}{code:List II}{s:Sd}{t:Li}
theorem SI.app(h:SI D R D0 code s t)(e:List II):SI D R D0 (code++e) s t:=
 ⟨h.XD,h.XC,by rw[h.eq];congr 1;exact List.map_congr_left λn hn=>(gY (h.idx n hn)).symm,λn hn=>tf e (h.idx n hn)⟩
theorem SI.put{D0:Li}{code:List II}{s:Sd}{t:Li}(h:SI D R D0 code s t)(l:Li)(hl:∀n,n∈l->II.in_ n code):SI D R D0 code (s.put l) (t++l.map (ez D R code)):=
 ⟨h.XD,h.XC,by rw[h.eq];simp[Sd.put],λn hn=>by rcases az.1 hn with h1|h1;exact h.idx n h1;grind⟩
theorem SI.top{D0:Li}{code:List II}{s:Sd}{t:Li}(h:SI D R D0 code s t):SI D R D0 code s.top t:=⟨h.XD,h.XC,h.eq,h.idx⟩
theorem SI.len(h:SI D R D0 code s t):(t.length:Int)=(D0.length:Int) - s.Wi+(s.l.length:Int):=by
 have h1:=h.XD;have h2:=h.XC;rw[h.eq];simp;omega
theorem Nq{k:Int}(hk:k=1/\D0=D\/k=2/\D0=R){code:List II}{s:Sd}{t:Li}(h:SI D R D0 code s t)(hD:D0.length<=100)
  (hn:(fD k code s).2.2.Wi<=(D0.length:Int)):
  ∃l x,t=l++[x]/\SI D R D0 (fD k code s).2.1 (fD k code s).2.2 l/\II.in_ (fD k code s).1 (fD k code s).2.1/\ez D R (fD k code s).2.1 (fD k code s).1=x/\∃e,(fD k code s).2.1=code++e:=by
 have h0:=h.XD;have h1:=h.XC;have he:=h.eq;unfold fD at hn|-;cases hl:s.l.getLast? with
 |some n=>
  rw[hl]at hn;obtain⟨m,hm⟩:∃m,s.l=m++[n]:=List.getLast?_eq_some_iff.1 hl;refine⟨D0.take (D0.length - s.Wi.toNat)++m.map (ez D R code),ez D R code n,?_,⟨h0,h1,?_,?_⟩,?_,rfl,[],?_⟩
  .grind
  .simp[hm]
  .intro j hj;rw[hm]at hj;exact h.idx j bY
  .exact h.idx n bY
  simp
 |none=>
  rw[hl]at hn;have hs:s.l=[]:=List.getLast?_eq_none_iff.1 hl;have hn:s.Wi+1<=(D0.length:Int):=hn;have hw:IntKind.u32.wrap s.Wi=s.Wi:=by rw[aG];omega
  rw[hs]at he;obtain⟨j,hj⟩:∃j:Nat,s.Wi=j:=⟨s.Wi.toNat,by omega⟩;have hv:ez D R (code++[⟨k,code.length,0,0,IntKind.u32.wrap s.Wi⟩]) code.length=D0.getD (D0.length - 1 - j) 0:=by
   rw[ky,hw,hj];rcases hk with⟨rfl,rfl⟩|⟨rfl,rfl⟩<;>rfl
  refine⟨D0.take (D0.length - (j+1)),D0.getD (D0.length - 1 - j) 0,?_,⟨by grind,hn,?_,λn hn=>by cases hn⟩,pj _ _,hv,_,rfl⟩
  .rw[he,hj];have e1:D0.length - ((j:Int)).toNat=(D0.length - (j+1))+1:=by omega
   rw[e1,List.map_nil,aw,bE];congr 1;have e2:D0.length - 1 - j=D0.length - (j+1):=by omega
   have e3:D0.length - (j+1)<D0.length:=by omega
   grind
  grind
structure LI(D R:Li)(w:Lw)(td tr:Li):Prop where
 d:SI D R D w.code w.d td
 r:SI D R R w.code w.r tr
def FL(D R:Li)(f0:Int)(w:Lw)(f:Int):Prop:=w.flags= -1/\f=f0\/II.in_ w.flags w.code/\f=ez D R w.code w.flags
variable{w:Lw}
theorem FL.app{f0 f:Int}{w':Lw}(h:FL D R f0 w f){e:List II}(hc:w'.code=w.code++e)(hf:w'.flags=w.flags):FL D R f0 w' f:=by
 rcases h with⟨h1,h2⟩|⟨h1,h2⟩
 .exact Or.inl ⟨by rw[hf,h1],h2⟩
 exact Or.inr ⟨by grind [tf],by grind [gY]⟩
variable{td tr:Li}
theorem rV(h:LI D R w td tr)(hD:D.length<=100)(hn:w.We.2.d.Wi<=(D.length:Int)):
  ∃l x,td=l++[x]/\LI D R w.We.2 l tr/\II.in_ w.We.1 w.We.2.code/\ez D R w.We.2.code w.We.1=x/\∃e,w.We.2.code=w.code++e:=by
 obtain⟨l,x,h1,h2,h3,h4,e,h5⟩:=Nq (k:=1) (Or.inl ⟨rfl,rfl⟩) h.d hD hn;exact⟨l,x,h1,⟨h2,by have:=h.r.app e;rw[<-h5]at this;exact this⟩,h3,h4,e,h5⟩
theorem Nr(h:LI D R w td tr)(hR:R.length<=100)(hn:w.WN.2.r.Wi<=(R.length:Int)):
  ∃l x,tr=l++[x]/\LI D R w.WN.2 td l/\II.in_ w.WN.1 w.WN.2.code/\ez D R w.WN.2.code w.WN.1=x/\∃e,w.WN.2.code=w.code++e:=by
 obtain⟨l,x,h1,h2,h3,h4,e,h5⟩:=Nq (k:=2) (Or.inr ⟨rfl,rfl⟩) h.r hR hn;exact⟨l,x,h1,⟨by have:=h.d.app e;rw[<-h5]at this;exact this,h2⟩,h3,h4,e,h5⟩
theorem LI.W7{w:Lw}{td tr:Li}(h:LI D R w td tr)(l:Li)(hl:∀n,n∈l->II.in_ n w.code):LI D R (w.W7 l) (td++l.map (ez D R w.code)) tr:=⟨h.d.put l hl,h.r⟩
theorem LI.Xu{w:Lw}{td tr:Li}(h:LI D R w td tr)(l:Li)(hl:∀n,n∈l->II.in_ n w.code):LI D R (w.Xu l) td (tr++l.map (ez D R w.code)):=⟨h.d,h.r.put l hl⟩
theorem LI.add{w:Lw}{td tr:Li}(h:LI D R w td tr)(op a b imm:Int):LI D R (w.add op a b imm) td tr:=⟨h.d.app _,h.r.app _⟩
theorem LI.Wl{w:Lw}{td tr:Li}(h:LI D R w td tr):LI D R w.Wl td tr:=⟨h.d.top,h.r.top⟩
theorem LI.wfl{w:Lw}{td tr:Li}(h:LI D R w td tr)(x:Int):LI D R (w.wfl x) td tr:=⟨h.d,h.r⟩
theorem LI.wtg{w:Lw}{td tr:Li}(h:LI D R w td tr)(x:Int):LI D R (w.wtg x) td tr:=⟨h.d,h.r⟩
theorem LI.wbr{w:Lw}{td tr:Li}(h:LI D R w td tr)(x:Int):LI D R (w.wbr x) td tr:=⟨h.d,h.r⟩
theorem LI.Xx(h:LI D R w.Wl td tr):(td.length:Int)<=(D.length:Int)+w.Wl.d.high:=by
 have h1:=h.d.len;have h2:w.Wl.d.Wi=w.d.Wi:=rfl;have h3:w.Wl.d.l=w.d.l:=rfl;have h4:(w.d.l.length:Int) - w.d.Wi<=w.Wl.d.high:=Int.le_max_right _ _
 grind
theorem LI.lenR(h:LI D R w.Wl td tr):(tr.length:Int)<=(R.length:Int)+w.Wl.r.high:=by
 have h1:=h.r.len;have h2:w.Wl.r.Wi=w.r.Wi:=rfl;have h3:w.Wl.r.l=w.r.l:=rfl;have h4:(w.r.l.length:Int) - w.r.Wi<=w.Wl.r.high:=Int.le_max_right _ _
 grind
end
abbrev insV(o:Option ((Int×Int)×Nat)):List Value:=[.i ((o.map (·.1.1)).getD 0),.w ((o.map (·.1.2)).getD 0)]
abbrev insN(o:Option ((Int×Int)×Nat)):Nat:=(o.map (·.2)).getD 0
theorem BI(l:Li)(h:cF op=0):eo (op::l)=none:=by
 have e:(cF op==0)=true:=by rw[h];rfl
 show(bif cF op==0 then none else _)=none;rw[e]
 rfl
theorem yg{l:Li}(h:(l.length:Int)+1<cF op):eo (op::l)=none:=by
 unfold eo;simp only[aE h,ai,Bool.cond_self]
theorem qW{l:Li}{z:Nat}(h0:cF op=((z+1:Nat):Int))(h:z<=l.length):eo (op::l)=some ((op,ET (l.take z)),z+1):=by
 have e1:(cF op==0)=false:=by rw[h0,aV];omega
 have e2:decide ((l.length:Int)+1<cF op)=false:=aF (by rw[h0];omega)
 show(bif cF op==0 then none else bif decide ((l.length:Int)+1<cF op)then none else some ((op,ET (l.take ((cF op).toNat - 1))),(cF op).toNat))=_;rw[e1,ah,e2,ah,h0]
 rfl
theorem On{l:Li}{z k:Nat}(hk:k<z)(hx:l[k]? =some x):ET ((l.take z).drop k)=x+256*ET ((l.take z).drop (k+1)):=by
 have hx':(l.take z)[k]? =some x:=by rw[List.getElem?_take,if_pos hk];exact hx
 obtain⟨hlt,he⟩:=ar.1 hx';rw[List.drop_eq_getElem_cons hlt,he]
 rfl
theorem Ec(A:Oa)(c:Nat)(b:Li)(hb:u8s b)(w:World)(h:Rd w .u8 A b.length c b):
  Ctr prog 196 [.slice A b.length c] w [] (λv cs=>(∃y,v= .tuple #[.agg (insV (eo b)).toArray,.i (insN (eo b):Int),.i y]/\(y==0)=(eo b).isSome)/\cs=[]):=by
 have hlm:b.length<=maxLen:=aK h.cap h.max;simp only[maxLen]at hlm;cases b with
 |nil=>
  refine Zfs func196 ntmps196 ?_;refine Z_2 ?_;refine ZN λb2=>?_;refine fb ?_;refine pX ?_;refine Z_3 ?_;refine jj ?_;refine Lt ?_;exact⟨⟨10,rfl,rfl⟩,rfl⟩
 |cons op l=>
  have hop:=hb op cP;have hl:u8s l:=λx hx=>hb x (List.mem_cons_of_mem _ hx)
  have hlen:(op::l).length=l.length+1:=rfl;obtain⟨ad,rfl⟩:=h.some_ (by rw[hlen];omega);have hz5:cF op=0\/cF op=1\/cF op=2\/cF op=5:=jw op;have HS:=Ae op;have hn0:0<=cF op:=by omega
  obtain⟨z0,hz0⟩:∃z:Nat,cF op=z:=ao hn0;have E0:=BI (op:=op) l;have E1:=yg (op:=op) (l:=l);have E2:=λz h1 h2=>qW (op:=op) (l:=l) (z:=z) h1 h2
  rw[hz0]at hz5 HS E0 E1 E2;have hz6:z0<=5:=by omega
  refine Zfs func196 ntmps196 ?_;refine Z_2 ?_;refine ZN λb2=>?_;refine fb ?_;refine cy rfl ((aV.2 (by rw[hlen];omega))) (Z_5 ?_);refine Zy (cC (j:=0) rfl Zrf (Zv rfl) (Zv rfl) Wq2 Wq2) ?_;refine dQ (bM Zrf Zv0) (dJ h (cK (l:=op::l) (j:=0) rfl)) rfl (lD ?_);refine ZA ?_;refine ZN λb5=>?_
  refine jj ?_;refine ZSe (λw hi=>HS w) ?_;refine fb ?_;refine ZW ?_ ?_<;>intro hc5
  .rw[E0 (kP hc5)];refine Z_3 ?_;refine rf ?_;refine Lt ?_;exact⟨⟨12,rfl,rfl⟩,rfl⟩
  have hz1:1<=z0:=(by have:=ne_of_beq_false hc5;omega);refine Zw9 ?_ ?_<;>intro hc7
  .simp only[ac]at hc7;rw[E1 (by rw[hlen]at hc7;omega)];refine Z_3 ?_;refine rf ?_;refine Lt ?_;exact⟨⟨10,rfl,rfl⟩,rfl⟩
  simp only[aa]at hc7;obtain⟨z,rfl⟩:∃z,z0=z+1:=⟨z0 - 1,by omega⟩;have hzl:z<=l.length:=(by rw[hlen]at hc7;omega);rw[E2 z rfl hzl];have htl:(l.take z).length=z:=ri;have hrng:∀k,0<=ET ((l.take z).drop k)/\ET ((l.take z).drop k)<((256^(z - k):Nat):Int):=λk=>(by have h1:=Bn (l:=(l.take z).drop k) (λx hx=>hl x (aB (bG hx)));rwa[bH,htl]at h1)
  obtain⟨N,hN⟩:∃N:Nat->Int,(λk=>ET ((l.take z).drop k))=N:=⟨_,rfl⟩;have hN0:N 0=ET (l.take z):=(by rw[<-hN];rfl);have hNz:N z=0:=(by rw[<-hN];show ET ((l.take z).drop z)=0;rw[List.drop_of_length_le Wq1];rfl);have hNs:∀k x,k<z->l[k]? =some x->N k=x+256*N (k+1):=(λk x h1 h2=>by rw[<-hN];exact On h1 h2);have hNr:∀k,0<=N k/\N k<((256^(z - k):Nat):Int):=(λk=>by rw[<-hN];exact hrng k);rw[<-hN0];refine Z_6 ?_;refine eY ([row b2 [.i 0,.w 0] 128,row b5 [.i op,.w 0] 128]) Zj ?_;rw[show row b5 [Value.i op,Value.w 0] 128=row b5 [Value.i op,Value.w (N z)] 128 from by rw[hNz]];refine ZA ?_;refine Zy (i5 (Zv rfl) (Zv rfl) (show _=(z:Int)from by rw[bD _ ⟨by omega,by omega⟩];omega)) ?_;refine Z_4 ?_;refine wLo (λk:Nat=>[(0,.slice (some ad) (op::l).length c),(2,.p b2),(5,.p b5),(6,.i ((z+1:Nat):Int)),(7,.i (k:Int))]) (λk=>[row b2 [.i 0,.w 0] 128,row b5 [.i op,.w (N k)] 128]) (λk=>k<=z) (λk=>k) (z) (aL _) ?_;rintro k hk;refine Zw7 ?_ ?_<;>intro hc10
  .simp only[ac]at hc10;obtain⟨k,rfl⟩:∃m,k=m+1:=⟨k - 1,by omega⟩;have hx:l[k]? =some (l[k]'(by omega)):=ae Wq1;have hxb:=hl _ (List.getElem_mem (show k<l.length by omega));obtain⟨x,hxx⟩:=Zgn (l[k]'(by omega));rw[hxx]at hx hxb;have hst:=hNs k x Wq1 hx;have hr:=hNr (k+1);have hp:(256^(z - (k+1)):Nat)<=256^3:=Nat.pow_le_pow_right bX Wq1;have hp2:((256^(z - (k+1)):Nat):Int)<=16777216:=(by have e:(256^3:Nat)=16777216:=bX;omega);have hor:=shl8_or hr.1 Wq1 hxb;refine Z_4 ?_;refine bU (Zdn [10]) Zk (ui ?_);refine Zy4 2 rfl (Jq (Zv rfl) (Zv rfl) Wq1 rfl) ?_;refine ZE 3 ?_;refine ZE 4 ?_;refine Zy4 5 rfl (cC (j:=k+1) rfl Zrf (Zv rfl) (Zv rfl) Wq2 Wq2) ?_;refine Zy5 6 rfl (bM Zrf Zv0) (dJ h (cK (l:=op::l) (j:=k+1) hx)) ?_;refine Zy4 7 rfl (cU rfl rfl (Zv rfl) QO) ?_;refine Zy4 8 rfl (Ci (Zv rfl) (Zv rfl) (show _=N k from by rw[hst];exact hor)) ?_;refine ZFe 9 1 ?_;refine mb ?_;refine o9 ?_;refine Z_4 ?_;refine Zy (i5 (Zv rfl) (Zv rfl) (show _=(k:Int)from by rw[bD _ ⟨by omega,by omega⟩];omega)) ?_;refine Z_2 ?_;refine qMM (k) ⟨show k<=z by omega,show k<k+1 by omega⟩
  simp only[aa]at hc10;obtain rfl:k=0:=Wq1;refine Z_9 ?_;refine mR ?_;refine Lt ?_;exact⟨⟨0,rfl,rfl⟩,rfl⟩
theorem KU{n:Nat}{M:Mem}{p:Nat}(h:n<=p/64):eV n M p=none:=by
 unfold eV;rw[aF Wq1]
 rfl
theorem KV{n:Nat}{M:Mem}{p:Nat}(h:p/64<n):eV n M p=eo (((M.data.drop (p/64*64)).take 64).drop (p%64)):=by
 unfold eV;rw[aE h]
 rfl
theorem cut64{w:World}{j:Nat}{X:Li}(h:Rd w .u8 (sA b) 64 64 X)(hj:j<64)(hX:X.length=64):Rd w .u8 (some ⟨b,j,none⟩) (64 - j) (64 - j) (X.drop j):=by
 have h5:=RdV.cut h (lo:=j) (hi:=64) Wq1 (aL _);rw[if_neg Wq1,Option.map_some,Addr.add_lit,Nat.zero_add,Nat.mul_one]at h5;have e:(ints .u8 X).take 64=ints .u8 X:=aM (by simp[ints,hX]);rw[e]at h5;have e2:(ints .u8 X).drop j=ints .u8 (X.drop j):=by simp[ints]
 rwa[e2]at h5
abbrev qY(b:EP)(X:ko):List Value:=b.s.cells (.slice X.Ad b.s.d.length X.cd) (.slice X.Ar b.s.r.length X.cr)++[.w b.place,.bool b.runs]
theorem J0(L:eB)(M:Mem)(p:Nat)(hp:L.n<=p)(w:World)(h:(fw L M).ok w):CW prog 168 [.p L.bm,.i p] w (.tuple #[.slice none 0 0,.bool false]):=by
 obtain⟨n1,n64,hdl,hdb,htl⟩:=nc h;obtain⟨k0,hr0,h1,h2,h3,h4⟩:=qD h;refine Zfs func168 ntmps168 ?_;refine Wq225 ?_;rintro _ _ ⟨_,⟨rfl,rfl⟩,rfl⟩;refine Z_4 ?_;refine cn rfl ((by rw[aE (show(L.n:Int)<=p by omega)];rfl)) (Z_8 ?_);exact lc
theorem IK(bu bb:Nat)(L:eB)(M:Mem)(p:Nat)(hp:p<=4294967295)(w:World)(hu:(LG bu L.bm bb).ok w)(h:(fw L M).ok w):
  CW prog 173 [.p bu,.w (p:Int)] w (.tuple #[.agg (insV (eV L.n M p)).toArray,.i (insN (eV L.n M p):Int),.bool (eV L.n M p).isSome]):=by
 obtain⟨n1,n64,hdl,hdb,htl⟩:=nc h;have hq:IntKind.u32.wrap ((p:Int).tdiv 64)=((p/64:Nat):Int):=by rw[Int.tdiv_eq_ediv_of_nonneg Wq1,u32_wrap_id _ Wq1 Wq1];omega
 have hrm:(p:Int).tmod 64=((p%64:Nat):Int):=by rw[aW Wq1];omega
 by_cases hpn:p/64<L.n
 .have HP:=AE L M (p/64) hpn;rw[KV hpn];have hXl:((M.data.drop (p/64*64)).take 64).length=64:=by rw[aD,bH];omega
  have hXb:u8s ((M.data.drop (p/64*64)).take 64):=λx hx=>hdb x (bG (aB hx))
  obtain⟨X,hX⟩:=Zgn ((M.data.drop (p/64*64)).take 64);rw[hX]at HP hXl hXb|-;have hbl:(X.drop (p%64)).length=64 - p%64:=by rw[bH,hXl]
  have HD:=λA c w h=>Ec A c (X.drop (p%64)) (λx hx=>hXb x (bG hx)) w h
  rw[hbl]at HD;obtain⟨o,ho⟩:=Zgn (eo (X.drop (p%64)));rw[ho]at HD|-;refine Zfs func173 ntmps173 ?_;refine Z_2 ?_;refine ZN λb4=>?_;refine gq ?_;refine kv ?_;refine Wq470 ?_;refine ZSn (λw hi=>HP w (bJ.old h hi)) ?_;rintro _ _ ⟨bq,rfl,rfl⟩;refine sG ?_;refine Z_6 ?_;refine Zy (jm (Zv rfl) (Zv rfl) Wq1 hrm) ?_;refine Zy (mg (sz:=1) (lo:=p%64) (hi:=64) (r:=p%64) rfl Zrf (Zv rfl) (.inr ⟨_,_,rfl,(Zv rfl)⟩) (.inl ⟨rfl,rfl⟩) Wq1 Wq1 Wq1 Wq1) ?_;refine ZSn (λw hi=>HD (some ⟨bq,p%64,none⟩) (64 - p%64) w (cut64 (hi.rd (Zhc (sl .u8 5 (sA bq) 64 64 X))) Wq1 hXl)) ?_;rintro _ _ ⟨⟨y,rfl,hy⟩,rfl⟩;refine Z_4 ?_;refine ZN λb9=>?_
  refine ZM ?_;refine Z_9 ?_;refine Zy (jn (Zv rfl) (Zv rfl) hy) ?_;refine mR ?_;refine Lt ?_;exact gr
 have HP:=J0 L M (p/64) Wq1;rw[KU Wq1];refine Zfs func173 ntmps173 ?_;refine Z_2 ?_;refine ZN λb4=>?_;refine gq ?_;refine kv ?_;refine Wq470 ?_;refine ZSe (λw hi=>HP w (bJ.old h hi)) ?_;refine jl ?_;refine pX ?_;refine Z_3 ?_;refine jj ?_;refine Lt ?_;exact gr
theorem NH(op nn:Int)(r:Res)(X:ko)(Ap:Oa)(cp:Nat)(Wt was:Int)(hpc:u32 r.s.pc)(hw:u32 was)(w:World)(h:Rd w .i64 Ap r.Wa.length cp r.Wa):
  CW prog 175 [.agg #[.i op,.w nn],.agg (mz r X Ap cp).toArray,.i Wt,.w was] w (.bool (lQ op r Wt was)):=by
 have HC:=pI Ap cp r.Wa Wt;have hq:∀x:Int,u32 x->IntKind.u32.wrap (x.tdiv 64)=x/64:=λx hx=>by obtain⟨h1,h2⟩:=hx;rw[Int.tdiv_eq_ediv_of_nonneg h1,u32_wrap_id _ Wq1 Wq1]
 refine Zfs func175 ntmps175 ?_;refine Z_2 ?_;refine ZO λb4=>?_;refine ZO λb5=>?_
 refine Z_8 ?_;refine ZSe (λw hi=>Bx op w) ?_;refine ue ?_;refine dE (bQ rfl rfl) (.cons (cA rfl) (.cons (cA rfl) .nil)) (λ_ _=>rfl) (λhg w hi=>HC w (RdV.Wh h hi)) rfl (Zw3 ?_ ?_)<;>intro hc1
 .refine sE ?_;exact⟨by unfold lQ;rw[hc1];rfl,rfl⟩
 refine Z_7 ?_;refine Zy (mh (Zv rfl) (Zv rfl) Wq1 (hq _ hpc)) ?_;refine ZA ?_;refine Zy (mh (Zv rfl) (Zv rfl) Wq1 (hq _ hw)) ?_;refine Z_5 ?_;refine Zra ?_;exact⟨by unfold lQ;rw[hc1];rfl,rfl⟩
end
end Go.Ink
