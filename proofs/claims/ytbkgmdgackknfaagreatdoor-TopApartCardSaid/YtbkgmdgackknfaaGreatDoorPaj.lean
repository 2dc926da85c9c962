/- Lemmas. -/
import Derived.Test.YtbkgmdgackknfaaGreatDoorPai
set_option linter.unusedSimpArgs false
set_option linter.unusedVariables false
set_option maxRecDepth 100000
set_option maxHeartbeats 4000000
namespace Go.Ink
open Go.RowKit Go.Proofs.Tryz
section
attribute [local irreducible] OpY bH
section
variable {n:Nat} {U:Mmu} {s:Sp}
end
section
variable {n:Nat} {U:Mmu} {s:Sp} {d:Dev}
theorem GP:ii (List.replicate 64 false) 64=[]:=by rfl
end
theorem lD{w0:World}{S:List Nat}{cs:List bC}{e sz n c b:Nat}{ad:Addr}{xs vs:List Value}(hc:Has cs (slv e sz (some ad) n c xs))(hv:∀j v,vs[j]? =some v->xs[b+j]? =some v):∀w,Inv w0 S cs w->cells (ez (ad.add b) 0 vs) w:=λw hi=>
 kW λj v hj=>by
  rw[Nat.add_zero];exact(hi.rd hc).at_ ad rfl (b+j) v (hv j v hj)
theorem MJ(A A2:Option Addr)(c c2:Nat)(xs ys:List Int)(hx:u8s xs)(hy:u8s ys)(w:World)(h:Rd w .u8 A xs.length c xs)(h2:Rd w .u8 A2 ys.length c2 ys):
  Ctr prog 176 [.slice A xs.length c,.slice A2 ys.length c2] w [] (λv cs=>v= .bool (xs==ys)/\cs=[]):=by
 refine Zfs func176 ntmps176 ?_;refine Z_8 ?_;refine dZ (λw hi=>kq (h.RU hi)) (λhrd6=>?_);refine dK (j9 rfl rfl rfl Zv0 hrd6) (λw hi=>RdV.Sg (h.RU hi)) rfl (ZA ?_);refine dZ (λw hi=>kq (h2.RU hi)) (λhrd8=>?_);refine dK (j9 rfl rfl rfl Zv0 hrd8) (λw hi=>RdV.Sg (h2.RU hi)) rfl (Zy (uy rfl (Zv rfl) (Zv rfl) (nX hx hy)) ?_);exact mF
def qe:List Int:=[0,1,28,2,29,14,24,3,30,22,20,15,25,17,4,8,31,27,13,23,21,19,16,7,26,12,18,6,11,5,10,9]
def zP(b:Nat):Nat->Nat->Option Nat
 |_,0=>none
 |k,m+1=>bif b/2^k%2==1 then some k else zP b (k+1) m
def qI(b:Nat):Option Nat:=zP b 0 8
def tzAnd(x:Int):Int:=bits .and .u32 x (IntKind.u32.wrap (0 - x))
def tzMul(x:Int):Int:=IntKind.u32.wrap (tzAnd x*125613361)
def Jq(x:Int):Int:=(tzMul x).fdiv (2^(min (Int.toNat 27) IntKind.u32.bits))
def tzSay(x:Nat):Bool:=x==0||match qI x with
 |some k=>decide (0<=Jq x)&&decide (Jq x<32)&&(qe[(Jq x).toNat]? ==some (k:Int))&&decide (k<8)
 |none=>false
theorem tz_all:(List.range 256).all tzSay=true:=by decide+kernel
theorem Jp{x:Nat}(h0:0<x)(h:x<256):∃k j:Nat,qI x=some k/\k<8/\Jq x=(j:Int)/\j<32/\qe[j]? =some (k:Int):=by
 have h1:=aY.1 tz_all x (List.mem_range.2 h);have e:(x==0)=false:=by simp;omega
 unfold tzSay at h1;rw[e,Bool.false_or]at h1;cases hl:qI x with
 |none=>rw[hl]at h1;cases h1
 |some k=>
  rw[hl]at h1;simp only[aD,ae,beq_iff_eq]at h1;obtain⟨⟨⟨h2,h3⟩,h4⟩,h5⟩:=h1;exact⟨k,(Jq x).toNat,rfl,h5,by omega,by omega,h4⟩
theorem O7:qI 0=none:=by decide
def Ln(d:Dev):Option Nat:=qI (bits .and .u32 d.Sc d.mask).toNat
def Dev.tick(d:Dev)(count:Int):Dev:=bif(d.timer==0)||decide (IntKind.u32.wrap count<d.timer)then d else{d with timer:=0,Sc:=bits .or .u32 d.Sc 1}
def told(s:St)(d:Dev):St:=match Ln d with
 |some k=>bif s.ie then s.R8 ((16+k:Nat):Int) 0 else s
 |none=>s
structure C8 where
 s:St
 place:Int
 runs:Bool
 u:Mmu
 d:Dev
def St.space(s:St):Sp:=⟨s.RW,s.RM,s.root.toNat⟩
def mB(n:Nat)(s:St)(U:Mmu)(d:Dev):C8:=
 let q:=cG n U s.space s.pc.toNat 1
 bif q.1.2.RN !=0 then⟨s.next.R8 q.1.2.RN q.1.2.addr,0,false,q.2,d⟩else⟨s,q.1.1,true,q.2,d⟩
def dy(n:Nat)(s:St)(U:Mmu)(d:Dev):C8:=
 bif !s.right||s.halted then⟨s,0,false,U,d⟩else mB n (told s (d.tick s.count)) U (d.tick s.count)
def Db:List Int->Int
 |[]=>0
 |b::l=>b+256*Db l
def dj(b:List Int):Option ((Int×Int)×Nat):=
 match b with
 |[]=>none
 |op::l=>bif cy op==0 then none else bif decide ((l.length:Int)+1<cy op)then none else some ((op,Db (l.take ((cy op).toNat - 1))),(cy op).toNat)
def df(n:Nat)(M:Mem)(p:Nat):Option ((Int×Int)×Nat):=
 bif decide (p/64<n)then dj (((M.data.drop (p/64*64)).take 64).drop (p%64))else none
def fx(op:Int):Bool:=(decide (32<=op)&&decide (op<=40))||(decide (64<=op)&&decide (op<=69))
def jN(op:Int)(r:Res)(RY was:Int):Bool:=bif fx op||r.SW||r.device||r.s.halted||r.RG.contains RY then false else(r.s.pc/64==was/64)
def dX(n:Nat)(RY:Nat):Nat->St->Nat->Mmu->Dev->St×Mmu×Dev
 |0,s,_,U,d=>(s,U,d)
 |k+1,s,p,U,d=>match df n U.m p with
  |none=>(s.next.R8 1 0,U,d)
  |some ((op,nn),sz)=>
   let q:=pG n s op nn U d
   bif jN op q.1 RY s.pc then dX n RY k q.1.s ((p+sz)%4294967296) q.2.1 q.2.2 else(q.1.s,q.2.1,q.2.2)
def dw(n:Nat)(s:St)(U:Mmu)(d:Dev):St×Mmu×Dev:=
 let b:=dy n s U d
 bif b.runs then dX n (b.place.toNat/64) 8 b.s b.place.toNat b.u b.d else(b.s,b.u,b.d)
def mb(n:Nat)(m:Int)(from_:Int):Nat->St×Mmu×Dev->St×Mmu×Dev
 |0,q=>q
 |k+1,q=>bif decide (0<m)&& !q.1.halted&&decide (IntKind.u64.wrap (q.1.count - from_)<m)then mb n m from_ k (dw n q.1 q.2.1 q.2.2)else q
theorem CO(k:IntKind)(x y:Int):bits .or k x y=bits .or k y x:=by
 unfold bits;simp only[BitVec.or_comm]
theorem zR:∀{l:List Int},u8s l->0<=Db l/\Db l<((256^l.length:Nat):Int)
 |[],_=>by simp[Db]
 |b::l,h=>by
  obtain⟨h1,h2⟩:=zR (l:=l) (λx hx=>h x (List.mem_cons_of_mem _ hx));have hb:=h b cH;have e:((256^(b::l).length:Nat):Int)=256*((256^l.length:Nat):Int):=by
   rw[aQ,Nat.pow_succ,Nat.mul_comm];exact Int.natCast_mul 256 _
  rw[e];unfold Db;omega
def SzIn(x:Int):Prop:=x=0\/x=1\/x=2\/x=5
theorem jv(op:Int):SzIn (cy op):=by
 unfold cy
 repeat (refine bI SzIn (Or.inr (Or.inr (Or.inl rfl))) ?_)
 refine bI SzIn (Or.inr (Or.inr (Or.inr rfl))) ?_;exact bI SzIn (Or.inl rfl) (Or.inr (Or.inl rfl))
theorem shl8_or{N b:Int}(h0:0<=N)(h1:N<16777216)(hb:0<=b/\b<=255):bits .or .u32 (IntKind.u32.wrap (N*2^(min (Int.toNat 8) IntKind.u32.bits))) b=b+256*N:=by
 have e:(N*2^(min (Int.toNat 8) IntKind.u32.bits):Int)=N*256:=rfl;rw[e,u32_wrap_id _ Wq1 Wq1,CO,show bits .or .u32 b (N*256)=b+N*256 from by apply u32_or8<;>omega];omega
def fE(w:World):Prop:=RdV w 1 (sA 0) 32 32 (ints .u8 qe)
theorem fE.old{w0 w:World}{cs:List bC}(h:fE w0)(hi:Inv w0 [] cs w):fE w:=RdV.RU h hi
theorem NS{w0:World}{cs:List bC}{j:Nat}{a:Int}(ht:fE w0)(h:qe[j]? =some a):∀w,Inv w0 [] cs w->cells [(⟨0,0+j*1,none⟩,.int .u8 a)] w:=by
 have h5:=dL (w0:=w0) (cs:=cs) ht (cq h);rw[Addr.add_lit]at h5;exact h5
theorem tz_ok(x k:Nat)(h0:0<x)(h:x<256)(hk:qI x=some k)(w:World)(ht:fE w):Ctr prog 150 [.w (x:Int)] w [] (λv cs=>v= .i (k:Int)/\cs=[]):=by
 obtain⟨k',j,e1,e5,e2,e3,e4⟩:=Jp h0 h;obtain rfl:k'=k:=ax (e1.symm.trans hk);refine Zfs func150 ntmps150 ?_;refine fD ?_;refine cJ rfl ((beq_eq_false_iff_ne.2 Wq1)) (Z_6 ?_);refine Zy (y_neg Zv0 rfl) ?_;refine ZA ?_;refine Zy (jR Zv0 Zv0 rfl) ?_;refine Zy (lW (Zv rfl) (Zv rfl) Wq1 (show _=(j:Int)from e2)) ?_;refine Zy (dE (j:=j) (sz:=1) (r:=0+j*1) rfl Zrf (Zv rfl) (Zv rfl) Wq2 Wq2 Wq1) ?_;refine dK (bF Zrf Zv0) (NS ht e4) rfl (wO ?_);exact mF
theorem H4(b x:Nat)(p m:Int)(hx:bits .and .u32 p m=(x:Int))(h256:x<256)(w:World)(h:(pT b p m).ok w)(ht:fE w):
  Ctr prog 134 [.p b] w [] (λv cs=>v= .tuple #[.i (((qI x).getD 0:Nat):Int),.bool (qI x).isSome]/\cs=[]):=by
 refine Zfs func134 ntmps134 ?_;refine Z_7 ?_;refine Dd ?_;refine ZFe 2 0 ?_;refine Zy5 3 rfl (bF Zrf (Zv rfl)) (dc kP rfl) ?_;refine ZE 4 ?_;refine ZE 5 ?_;refine ZFe 6 1 ?_;refine Zy5 7 rfl (bF Zrf (Zv rfl)) (dc kP rfl) ?_;refine Zy4 8 rfl (sH Zv0 Zv0 hx) ?_;refine ZE 9 ?_;refine eQ ?_;refine Zw8 ?_ ?_<;>intro hc2
 .obtain rfl:x=0:=(by have:=jZ hc2;omega);rw[O7];refine Z_8 ?_;exact lQ
 have hx0:0<x:=(by have:=ne_of_beq_false hc2;omega);obtain⟨k,j,e1, -⟩:=Jp hx0 h256;have HT:=tz_ok x k hx0 h256 e1;rw[e1];refine Z_5 ?_;refine ZSe (λw hi=>HT w (ht.old hi)) ?_;refine Z_5 ?_;exact lQ
theorem due_ok(b:Nat)(t count:Int)(w:World)(hi:Inv w (bD [GS b t]) [GS b t] w):
  Ctr prog 149 [.p b,.int .u64 count] w [GS b t] (λv cs=>v= .bool (!((t==0)||decide (IntKind.u32.wrap count<t)))/\cs=[GS b (bif(t==0)||decide (IntKind.u32.wrap count<t)then t else 0)]):=by
 refine Zfn func149 ntmps149 hi ?_;refine sx ?_;refine Zyn rfl rfl (cQ rfl rfl (bU rfl) rfl) ?_;refine Zw8 ?_ ?_<;>intro hc1
 .rw[hc1];refine Z_7 ?_;exact AI
 rw[hc1];refine Z_7 ?_;refine ZL ?_;refine Z_8 ?_;exact AI
theorem lines0:nz [0]=1:=by decide
theorem tick_ok(D:rp)(bm:Nat)(X:nS)(d:Dev)(count:Int)(w:World)(hi:Inv w (bD (kO D bm X d)) (kO D bm X d) w):
  Ctr prog 133 [.p D.bs,.int .u64 count] w (kO D bm X d) (λv cs=>v= .tuple #[]/\cs=kO D bm X (d.tick count)):=by
 obtain⟨c,hc⟩:=Zgn (((d.timer==0)||decide (IntKind.u32.wrap count<d.timer)));have HD:=due_ok D.bti d.timer count;have HR:=λA c w hi h=>nA D.bi d.Sc d.mask A c [0] (λx hx=>by simp at hx;omega) w hi h
 rw[hc]at HD;rw[lines0]at HR;refine Zfn func133 ntmps133 hi ?_;refine Z_7 ?_;refine ZcM ([GS D.bti d.timer]) (λw hi hin=>HD w hin) ?_;refine Z_2 ?_;refine ZW ?_ ?_<;>intro hc0
 .obtain rfl:c=false:=(by cases c with|false=>rfl|true=>cases hc0);have ht:d.tick count={d with timer:=0,Sc:=bits .or .u32 d.Sc 1}:=(by unfold Dev.tick;rw[hc];rfl);rw[ht];refine Z_5 ?_;refine kY ?_;rintro _ _ ⟨b14,rfl,rfl⟩;refine ZcM ([pT D.bi d.Sc d.mask]) (λw hi hin=>HR (sA b14) 1 w hin (λw' hk=>hi.Sr Zi (show Has _ (slv 3 1 (sA b14) 1 1 (ints .i64 [0]))from Zh) hk)) ?_;refine Zn (bG (kO D bm X {d with timer:=0,Sc:=bits .or .u32 d.Sc 1}) Zj ?_);exact iY (cs':=[row _ _ _,row _ _ _,row _ _ _,row _ _ _,slv _ _ _ _ _ _,slv _ _ _ _ _ _,row _ _ _,slv _ _ _ _ _ _]) (.inr rfl) Zu rfl fy
 obtain rfl:c=true:=(by cases c with|true=>rfl|false=>cases hc0);have ht:d.tick count=d:=(by unfold Dev.tick;rw[hc];rfl);rw[ht];refine Zc (bG (kO D bm X d) Zj ?_);exact iY (cs':=[row _ _ _,row _ _ _,row _ _ _,row _ _ _,slv _ _ _ _ _ _,slv _ _ _ _ _ _,row _ _ _,slv _ _ _ _ _ _]) (.inr rfl) Zu rfl fy
theorem z9(op:Int)(w:World):Ctr prog 172 [.i op] w [] (λv cs=>v= .bool (fx op)/\cs=[]):=by
 refine Zfs func172 ntmps172 ?_;refine kX ?_;refine Z_5 ?_;exact pM
theorem Pm(A:Option Addr)(c:Nat)(l:List Int)(x:Int)(w:World)(h:Rd w .i64 A l.length c l):Ctr prog 129 [.slice A l.length c,.i x] w [] (λv cs=>(∃z,v= .i z/\decide (0<=z)=l.contains x)/\cs=[]):=by
 have hlm:l.length<=maxLen:=aN h.cap h.max;simp only[maxLen]at hlm;refine Zfs func129 ntmps129 ?_;refine iT ?_;refine bN (λk:Nat=>[(0,.slice A l.length c),(1,.i x),(7,.i (l.length:Int)),(8,.i (k:Int))]) (λ_=>[]) (λk=>k<=l.length/\∀j,j<k->l[j]? ≠some x) (λk=>l.length - k) (0) ?_ ?_ ?_ ?_
 .exact⟨au _,λj hj=>by omega⟩
 .exact Zwk
 .exact Zu
 rintro k ⟨hk,hno⟩;refine Zw6 ?_ ?_<;>intro hc2
 .simp only[ae]at hc2;have hkl:k<l.length:=Wq1;obtain⟨ad,rfl⟩:=h.some_ Wq1;have hy:l[k]? =some (l[k]'hkl):=aa hkl;obtain⟨y,hyy⟩:=Zgn (l[k]'hkl);rw[hyy]at hy;refine sx ?_;refine CS ?_;refine dK (bF Zrf Zv0) (dL h (cq hy)) rfl (Zw3 ?_ ?_)<;>intro hc4
  .have e:=jZ hc4;refine fD ?_;refine Zra ?_;exact⟨⟨_,rfl,by rw[ay (show(0:Int)<=(k:Int) by omega),List.contains_eq_mem,ay (e▸ak hy)]⟩,rfl⟩
  refine gh ?_;refine dM (k+1) ?_ ?_ ?_
  .exact⟨⟨by omega,λj hj=>by rcases Nat.lt_or_ge j k with h1|h1;exact hno j h1;obtain rfl:j=k:=Wq1;rw[hy];intro e;exact ne_of_beq_false hc4 (ax e).symm⟩,by omega⟩
  .exact Zwk
  exact Zu
 simp only[ac]at hc2;have hnm:l.contains x=false:=(by rw[List.contains_eq_mem,ac];intro hm;obtain⟨j,hj,e⟩:=List.getElem_of_mem hm;exact hno j Wq1 (by rw[aa hj,e]));refine rf ?_;exact⟨⟨_,rfl,by rw[hnm];rfl⟩,rfl⟩
theorem pI(A:Option Addr)(c:Nat)(l:List Int)(x:Int)(w:World)(h:Rd w .i64 A l.length c l):Ctr prog 114 [.slice A l.length c,.i x] w [] (λv cs=>v= .bool (l.contains x)/\cs=[]):=by
 refine Zfs func114 ntmps114 ?_;refine Z_9 ?_;refine ZSn (λw hi=>Pm A c l x w (RdV.RU h hi)) ?_;rintro _ _ ⟨⟨z,rfl,hz⟩,rfl⟩;refine Z_5 ?_;refine Zra ?_;exact⟨by rw[<-hz],rfl⟩
abbrev insV(o:Option ((Int×Int)×Nat)):List Value:=[.i ((o.map (·.1.1)).getD 0),.w ((o.map (·.1.2)).getD 0)]
abbrev insN(o:Option ((Int×Int)×Nat)):Nat:=(o.map (·.2)).getD 0
theorem Au{op:Int}(l:List Int)(h:cy op=0):dj (op::l)=none:=by
 have e:(cy op==0)=true:=by rw[h];rfl
 show(bif cy op==0 then none else _)=none;rw[e]
 rfl
theorem w7{op:Int}{l:List Int}(h:(l.length:Int)+1<cy op):dj (op::l)=none:=by
 unfold dj;simp only[ay h,ai,Bool.cond_self]
theorem qY{op:Int}{l:List Int}{z:Nat}(h0:cy op=((z+1:Nat):Int))(h:z<=l.length):dj (op::l)=some ((op,Db (l.take z)),z+1):=by
 have e1:(cy op==0)=false:=by rw[h0,beq_eq_false_iff_ne];omega
 have e2:decide ((l.length:Int)+1<cy op)=false:=ar (by rw[h0];omega)
 show(bif cy op==0 then none else bif decide ((l.length:Int)+1<cy op)then none else some ((op,Db (l.take ((cy op).toNat - 1))),(cy op).toNat))=_;rw[e1,ah,e2,ah,h0]
 rfl
theorem Lc{l:List Int}{z k:Nat}{x:Int}(hk:k<z)(hx:l[k]? =some x):Db ((l.take z).drop k)=x+256*Db ((l.take z).drop (k+1)):=by
 have hx':(l.take z)[k]? =some x:=by rw[List.getElem?_take,if_pos hk];exact hx
 obtain⟨hlt,he⟩:=aj.1 hx';rw[List.drop_eq_getElem_cons hlt,he]
 rfl
theorem CC(A:Option Addr)(c:Nat)(b:List Int)(hb:u8s b)(w:World)(h:Rd w .u8 A b.length c b):
  Ctr prog 166 [.slice A b.length c] w [] (λv cs=>(∃y,v= .tuple #[.agg (insV (dj b)).toArray,.i (insN (dj b):Int),.i y]/\(y==0)=(dj b).isSome)/\cs=[]):=by
 have hlm:b.length<=maxLen:=aN h.cap h.max;simp only[maxLen]at hlm;cases b with
 |nil=>
  refine Zfs func166 ntmps166 ?_;refine Z_2 ?_;refine ZN λb2=>?_;refine fD ?_;refine oU ?_;refine Z_3 ?_;refine jh ?_;refine IH ?_;exact⟨⟨10,rfl,rfl⟩,rfl⟩
 |cons op l=>
  have hop:=hb op cH;have hl:u8s l:=λx hx=>hb x (List.mem_cons_of_mem _ hx)
  have hlen:(op::l).length=l.length+1:=rfl;obtain⟨ad,rfl⟩:=h.some_ (by rw[hlen];omega);have hz5:cy op=0\/cy op=1\/cy op=2\/cy op=5:=jv op;have HS:=zd op;have hn0:0<=cy op:=by omega
  obtain⟨z0,hz0⟩:∃z:Nat,cy op=z:=ap hn0;have E0:=Au (op:=op) l;have E1:=w7 (op:=op) (l:=l);have E2:=λz h1 h2=>qY (op:=op) (l:=l) (z:=z) h1 h2
  rw[hz0]at hz5 HS E0 E1 E2;have hz6:z0<=5:=by omega
  refine Zfs func166 ntmps166 ?_;refine Z_2 ?_;refine ZN λb2=>?_;refine fD ?_;refine cJ rfl ((beq_eq_false_iff_ne.2 (by rw[hlen];omega))) (Z_5 ?_);refine Zy (bS (j:=0) rfl Zrf (Zv rfl) (Zv rfl) Wq2 Wq2) ?_;refine dK (bF Zrf Zv0) (dL h (cq (l:=op::l) (j:=0) rfl)) rfl (wO ?_);refine ZA ?_;refine ZN λb5=>?_
  refine jh ?_;refine ZSe (λw hi=>HS w) ?_;refine fD ?_;refine ZW ?_ ?_<;>intro hc5
  .rw[E0 (jZ hc5)];refine Z_3 ?_;refine ZM ?_;refine Z_7 ?_;refine IH ?_;exact⟨⟨12,rfl,rfl⟩,rfl⟩
  have hz1:1<=z0:=(by have:=ne_of_beq_false hc5;omega);refine Zw9 ?_ ?_<;>intro hc7
  .simp only[ae]at hc7;rw[E1 (by rw[hlen]at hc7;omega)];refine Z_3 ?_;refine ZM ?_;refine Z_7 ?_;refine IH ?_;exact⟨⟨10,rfl,rfl⟩,rfl⟩
  simp only[ac]at hc7;obtain⟨z,rfl⟩:∃z,z0=z+1:=⟨z0 - 1,by omega⟩;have hzl:z<=l.length:=(by rw[hlen]at hc7;omega);rw[E2 z rfl hzl];have htl:(l.take z).length=z:=(by rw[aI];omega);have hrng:∀k,0<=Db ((l.take z).drop k)/\Db ((l.take z).drop k)<((256^(z - k):Nat):Int):=λk=>(by have h1:=zR (l:=(l.take z).drop k) (λx hx=>hl x (bh (List.mem_of_mem_drop hx)));rwa[List.length_drop,htl]at h1)
  obtain⟨N,hN⟩:∃N:Nat->Int,(λk=>Db ((l.take z).drop k))=N:=⟨_,rfl⟩;have hN0:N 0=Db (l.take z):=(by rw[<-hN];rfl);have hNz:N z=0:=(by rw[<-hN];show Db ((l.take z).drop z)=0;rw[List.drop_of_length_le Wq1];rfl);have hNs:∀k x,k<z->l[k]? =some x->N k=x+256*N (k+1):=(λk x h1 h2=>by rw[<-hN];exact Lc h1 h2);have hNr:∀k,0<=N k/\N k<((256^(z - k):Nat):Int):=(λk=>by rw[<-hN];exact hrng k);rw[<-hN0];refine Z_6 ?_;refine dN ([row b2 [.i 0,.w 0] 71,row b5 [.i op,.w 0] 71]) Zj ?_;rw[show row b5 [Value.i op,Value.w 0] 71=row b5 [Value.i op,Value.w (N z)] 71 from by rw[hNz]];refine ZA ?_;refine Zy (gr (Zv rfl) (Zv rfl) (show _=(z:Int)from by rw[IntWalk.i64_in _ ⟨by omega,by omega⟩];omega)) ?_;refine Z_4 ?_;refine bN (λk:Nat=>[(0,.slice (some ad) (op::l).length c),(2,.p b2),(5,.p b5),(6,.i ((z+1:Nat):Int)),(7,.i (k:Int))]) (λk=>[row b2 [.i 0,.w 0] 71,row b5 [.i op,.w (N k)] 71]) (λk=>k<=z) (λk=>k) (z) ?_ ?_ ?_ ?_
  .exact aL _
  .exact Zwk
  .exact Zu
  rintro k hk;refine Zw7 ?_ ?_<;>intro hc10
  .simp only[ae]at hc10;obtain⟨k,rfl⟩:∃m,k=m+1:=⟨k - 1,by omega⟩;have hx:l[k]? =some (l[k]'(by omega)):=aa Wq1;have hxb:=hl _ (List.getElem_mem (show k<l.length by omega));obtain⟨x,hxx⟩:=Zgn (l[k]'(by omega));rw[hxx]at hx hxb;have hst:=hNs k x Wq1 hx;have hr:=hNr (k+1);have hp:(256^(z - (k+1)):Nat)<=256^3:=Nat.pow_le_pow_right Wq7 Wq1;have hp2:((256^(z - (k+1)):Nat):Int)<=16777216:=(by have e:(256^3:Nat)=16777216:=Wq7;omega);have hor:=shl8_or hr.1 Wq1 hxb;refine Z_4 ?_;refine bL ⟨λj=>List.elem j [10],[]⟩ Zk (ZFe 0 1 ?_);refine ZG 1 ?_;refine Zy4 2 rfl (yI (Zv rfl) (Zv rfl) Wq1 rfl) ?_;refine ZE 3 ?_;refine ZE 4 ?_;refine Zy4 5 rfl (bS (j:=k+1) rfl Zrf (Zv rfl) (Zv rfl) Wq2 Wq2) ?_;refine Zy5 6 rfl (bF Zrf Zv0) (dL h (cq (l:=op::l) (j:=k+1) hx)) ?_;refine Zy4 7 rfl (cQ rfl rfl (Zv rfl) Nl) ?_;refine Zy4 8 rfl (Gv (Zv rfl) (Zv rfl) (show _=N k from by rw[hst];exact hor)) ?_;refine ZFe 9 1 ?_;refine cn 10 Zk (nO ?_);refine Z_4 ?_;refine Zy (gr (Zv rfl) (Zv rfl) (show _=(k:Int)from by rw[IntWalk.i64_in _ ⟨by omega,by omega⟩];omega)) ?_;refine Z_2 ?_;refine dM (k) ?_ ?_ ?_
   .exact⟨show k<=z by omega,show k<k+1 by omega⟩
   .exact Zwk
   exact Zu
  simp only[ac]at hc10;obtain rfl:k=0:=Wq1;refine Z_9 ?_;refine mC ?_;refine IH ?_;exact⟨⟨0,rfl,rfl⟩,rfl⟩
theorem Ih{n:Nat}{M:Mem}{p:Nat}(h:n<=p/64):df n M p=none:=by
 unfold df;rw[ar Wq1]
 rfl
theorem Ii{n:Nat}{M:Mem}{p:Nat}(h:p/64<n):df n M p=dj (((M.data.drop (p/64*64)).take 64).drop (p%64)):=by
 unfold df;rw[ay h]
 rfl
theorem cut64{w:World}{b j:Nat}{X:List Int}(h:Rd w .u8 (sA b) 64 64 X)(hj:j<64)(hX:X.length=64):Rd w .u8 (some ⟨b,j,none⟩) (64 - j) (64 - j) (X.drop j):=by
 have h5:=RdV.cut h (lo:=j) (hi:=64) Wq1 (aL _);rw[if_neg Wq1,Option.map_some,Addr.add_lit,Nat.zero_add,Nat.mul_one]at h5;have e:(ints .u8 X).take 64=ints .u8 X:=List.take_of_length_le (by simp[ints,hX]);rw[e]at h5;have e2:(ints .u8 X).drop j=ints .u8 (X.drop j):=by simp[ints]
 rwa[e2]at h5
abbrev q9(b:C8)(X:j0):List Value:=b.s.cells (.slice X.Ad b.s.d.length X.cd) (.slice X.Ar b.s.r.length X.cr)++[.w b.place,.bool b.runs]
theorem G4(L:eA)(M:Mem)(p:Nat)(hp:L.n<=p)(w:World)(h:(eG L M).ok w):Ctr prog 138 [.p L.bm,.i p] w [] (λv cs=>v= .tuple #[.slice none 0 0,.bool false]/\cs=[]):=by
 obtain⟨n1,n64,hdl,hdb,htl⟩:=mM h;obtain⟨k0,hr0,h1,h2,h3,h4⟩:=qH h;refine Zfs func138 ntmps138 ?_;refine Wq223 ?_;rintro _ _ ⟨_,⟨rfl,rfl⟩,rfl⟩;refine Z_4 ?_;refine bW rfl ((by rw[ay (show(L.n:Int)<=p by omega)];rfl)) (Z_8 ?_);exact lQ
theorem F6(bu bb:Nat)(L:eA)(M:Mem)(p:Nat)(hp:p<=4294967295)(w:World)(hu:(IX bu L.bm bb).ok w)(h:(eG L M).ok w):
  Ctr prog 143 [.p bu,.w (p:Int)] w [] (λv cs=>v= .tuple #[.agg (insV (df L.n M p)).toArray,.i (insN (df L.n M p):Int),.bool (df L.n M p).isSome]/\cs=[]):=by
 obtain⟨n1,n64,hdl,hdb,htl⟩:=mM h;have hq:IntKind.u32.wrap ((p:Int).tdiv 64)=((p/64:Nat):Int):=by rw[bo Wq1,u32_wrap_id _ Wq1 Wq1];omega
 have hrm:(p:Int).tmod 64=((p%64:Nat):Int):=by rw[aO Wq1];omega
 by_cases hpn:p/64<L.n
 .have HP:=zp L M (p/64) hpn;rw[Ii hpn];have hXl:((M.data.drop (p/64*64)).take 64).length=64:=by rw[aI,List.length_drop];omega
  have hXb:u8s ((M.data.drop (p/64*64)).take 64):=λx hx=>hdb x (List.mem_of_mem_drop (bh hx))
  obtain⟨X,hX⟩:=Zgn ((M.data.drop (p/64*64)).take 64);rw[hX]at HP hXl hXb|-;have hbl:(X.drop (p%64)).length=64 - p%64:=by rw[List.length_drop,hXl]
  have HD:=λA c w h=>CC A c (X.drop (p%64)) (λx hx=>hXb x (List.mem_of_mem_drop hx)) w h
  rw[hbl]at HD;obtain⟨o,ho⟩:=Zgn (dj (X.drop (p%64)));rw[ho]at HD|-;refine Zfs func143 ntmps143 ?_;refine Z_2 ?_;refine ZN λb4=>?_;refine gK ?_;refine rh ?_;refine ZSe (λw hi=>uH bu L.bm bb w (bC.old hu hi)) ?_;refine ZA ?_;refine Zy (k8 (Zv rfl) (Zv rfl) Wq1 hq) ?_;refine wO ?_;refine ZSn (λw hi=>HP w (bC.old h hi)) ?_;rintro _ _ ⟨bq,rfl,rfl⟩;refine iT ?_;refine iU ?_;refine Z_6 ?_;refine Zy (i4 (Zv rfl) (Zv rfl) Wq1 hrm) ?_;refine Zy (lV (sz:=1) (lo:=p%64) (hi:=64) (r:=p%64) rfl Zrf (Zv rfl) (.inr ⟨_,_,rfl,(Zv rfl)⟩) (.inl ⟨rfl,rfl⟩) Wq1 Wq1 Wq1 Wq1) ?_;refine ZSn (λw hi=>HD (some ⟨bq,p%64,none⟩) (64 - p%64) w (cut64 (hi.rd (show Has _ (sl .u8 5 (sA bq) 64 64 X)from Zh)) Wq1 hXl)) ?_;rintro _ _ ⟨⟨y,rfl,hy⟩,rfl⟩;refine Z_4 ?_;refine ZN λb9=>?_
  refine ZM ?_;refine Z_9 ?_;refine Zy (AY (Zv rfl) (Zv rfl) hy) ?_;refine mC ?_;refine IH ?_;exact fy
 have HP:=G4 L M (p/64) Wq1;rw[Ih Wq1];refine Zfs func143 ntmps143 ?_;refine Z_2 ?_;refine ZN λb4=>?_;refine gK ?_;refine rh ?_;refine ZSe (λw hi=>uH bu L.bm bb w (bC.old hu hi)) ?_;refine ZA ?_;refine Zy (k8 (Zv rfl) (Zv rfl) Wq1 hq) ?_;refine wO ?_;refine ZSe (λw hi=>HP w (bC.old h hi)) ?_;refine iT ?_;refine oU ?_;refine Z_3 ?_;refine jh ?_;refine IH ?_;exact fy
theorem KH(op nn:Int)(r:Res)(X:j0)(Ap:Option Addr)(cp:Nat)(RY was:Int)(hpc:u32 r.s.pc)(hw:u32 was)(w:World)(h:Rd w .i64 Ap r.RG.length cp r.RG):
  Ctr prog 145 [.agg #[.i op,.w nn],.agg (me r X Ap cp).toArray,.i RY,.w was] w [] (λv cs=>v= .bool (jN op r RY was)/\cs=[]):=by
 have HC:=pI Ap cp r.RG RY;have hq:∀x:Int,u32 x->IntKind.u32.wrap (x.tdiv 64)=x/64:=λx hx=>by obtain⟨h1,h2⟩:=hx;rw[bo h1,u32_wrap_id _ Wq1 Wq1]
 refine Zfs func145 ntmps145 ?_;refine Z_2 ?_;refine ZO λb4=>?_;refine ZO λb5=>?_
 refine Z_8 ?_;refine ZSe (λw hi=>z9 op w) ?_;refine AG ?_;refine dU (bE rfl rfl) (.cons (bU rfl) (.cons (bU rfl) .nil)) (λ_ _=>rfl) (λhg w hi=>HC w (RdV.RU h hi)) rfl (Zw3 ?_ ?_)<;>intro hc1
 .refine Z_7 ?_;refine Zra ?_;exact⟨by unfold jN;rw[hc1];rfl,rfl⟩
 refine Z_7 ?_;refine Zy (k8 (Zv rfl) (Zv rfl) Wq1 (hq _ hpc)) ?_;refine ZA ?_;refine Zy (k8 (Zv rfl) (Zv rfl) Wq1 (hq _ hw)) ?_;refine Z_5 ?_;refine Zra ?_;exact⟨by unfold jN;rw[hc1];rfl,rfl⟩
end
section
variable {C:Cx} {fr:Fr} {d:Option Nat} {T:TypeId} {x:Operand} {ty:TypeId} {pos:String} {af:Array Edge} {gd:Option (Nat×Bool)} {g:Bool}
theorem Nt{i:Nat}{fs:Array Field}{f:Field}{vs:List Value}{v:Value}(hT:C.P.underlying T=some (.struct fs))(hf:fs[i]? =some f)(he:∀w,(isAgg f.type).run C.P w= .ok false w)(hx:Ev fr g x (.agg vs.toArray))(hv:vs[f.offset]? =some v):
  OpY C ⟨d,.field T x i,ty,pos,af,gd⟩ fr g Any v:=λa w hfr _ hg=>by
 have h1:=hx.eval hfr hg;have hr:(Instr.field T (.agg vs.toArray) i).run C.P w= .ok v w:=by
  simp[Instr.field,run_underlying hT,hf,asAgg,part,he,hv]
 simp[execOp,h1,hr]
end
structure nQ(L:eA)(k:C1):Prop where
 pl:dg k.B k.ow k.pr
 fr:k.fr.length=L.n
 gd:k.gd.length=L.n
 RY:∀p,p<L.n->k.fr[p]? =some (-1)\/∃f:Nat,k.fr[p]? =some (f:Int)/\16<=f/\f<256/\k.ow[f]? =some (L.o:Int)
 inj:∀p q f:Nat,k.fr[p]? =some (f:Int)->k.fr[q]? =some (f:Int)->p=q
 held:∀f:Nat,f<256->(L.oth f=false/\k.ow[f]? =some (-1))\/(L.oth f=false/\k.ow[f]? =some (L.o:Int)/\∃p:Nat,k.fr[p]? =some (f:Int))\/(L.oth f=true/\k.ow[f]? =L.gw[f]? /\∀j,j<64->k.B[f*64+j]? =L.gB[f*64+j]?)
 prs:k.pr=L.gp
section
variable {L:eA} {M:Mem} {k:C1}
theorem dJ.tab(h:dJ L M k):nQ L k:=⟨h.pl,h.fr,h.gd,λp hp=>by
 rcases h.RY p hp with h1|⟨f,h1,h2,h3,h4, -⟩
 ·grind
 grind,h.inj,h.held,h.prs⟩
theorem nQ.unmap(h:nQ L k){p f:Nat}(hf:k.fr[p]? =some (f:Int)):(16<=f/\f<256/\k.ow[f]? =some (L.o:Int))/\nQ L {k with ow:=k.ow.set f (-1),fr:=k.fr.set p (-1),gd:=k.gd.set p false}:=by
 have hpl:p<L.n:=by have:=(aj.1 hf).1;rw[h.fr]at this;exact this
 have hr:16<=f/\f<256/\k.ow[f]? =some (L.o:Int):=by
  rcases h.RY p hpl with h1|⟨g,h1,h2⟩
  .grind
  grind
 obtain⟨h16,h256,how⟩:=hr;have hwl:=h.pl.ow;have hfl:=h.fr;refine⟨⟨h16,h256,how⟩,⟨h.pl.b,by grind,h.pl.pr⟩,by grind,by simp[h.gd],λq hq=>?_,λa b g ha hb=>?_,λg hg=>?_,h.prs⟩
 .show(k.fr.set p (-1))[q]? =some (-1)\/∃g:Nat,(k.fr.set p (-1))[q]? =some (g:Int)/\16<=g/\g<256/\(k.ow.set f (-1))[g]? =some (L.o:Int);by_cases hqp:q=p
  .grind
  rw[List.getElem?_set_ne Wq1];rcases h.RY q hq with h1|⟨g,h1,h2,h3,h4⟩
  .grind
  have hgf:f≠g:=by rintro rfl;exact hqp (h.inj q p f h1 hf)
  grind
 .change (k.fr.set p (-1))[a]? =_ at ha
  change (k.fr.set p (-1))[b]? =_ at hb
  have no:∀c:Nat,(k.fr.set p (-1))[c]? =some (g:Int)->p≠c:=by
   rintro c hc rfl;rw[List.getElem?_set_self Wq1]at hc;have:=ax hc;omega
  rw[List.getElem?_set_ne (no a ha)]at ha;rw[List.getElem?_set_ne (no b hb)]at hb;exact h.inj a b g ha hb
 show(_/\(k.ow.set f (-1))[g]? =some (-1))\/(_/\(k.ow.set f (-1))[g]? =some (L.o:Int)/\∃q:Nat,(k.fr.set p (-1))[q]? =some (g:Int))\/(_/\(k.ow.set f (-1))[g]? =_/\_);by_cases hgf:f=g
 .subst hgf;left;refine⟨?_,by grind⟩;rcases h.held f hg with h1|h1|⟨h1,h2, -⟩
  .exact h1.1
  .exact h1.1
  grind [eA.oth]
 rw[List.getElem?_set_ne hgf];rcases h.held g hg with h1|⟨h1,h2,q,hq⟩|h1
 .grind
 .refine .inr (.inl ⟨h1,h2,q,?_⟩)
  grind
 grind
theorem nQ.none(h:nQ L k)(hall:∀p:Nat,p<L.n->k.fr[p]? =some (-1))(hl:L.gw.length=256)(hno:∀x,x∈L.gw->x≠(L.o:Int)):k.ow=L.gw/\∀f,f<256->L.oth f=true->∀j,j<64->k.B[f*64+j]? =L.gB[f*64+j]? :=by
 have hfr:∀(p f:Nat),k.fr[p]? ≠some (f:Int):=λp f hp=>by
  have hpl:=(aj.1 hp).1
  simp_all [h.fr]
 refine⟨List.ext_getElem? λf=>?_,λf hf ho=>?_⟩
 .by_cases hf:f<256
  .rcases h.held f hf with⟨h1,h2⟩|⟨-, -,q,hq⟩|⟨-,h2, -⟩
   .grind [eA.oth]
   .grind
   exact h2
  grind [h.pl.ow]
 rcases h.held f hf with⟨h1, -⟩|⟨h1, -⟩|⟨-, -,h3⟩
 .grind
 .grind
 exact h3
end
def Da(fr:List Int)(k:Nat):List Nat:=(List.range k).filter (λp=> !(fr[p]? ==some (-1)))
def iC(fr:List Int)(k:Nat):List Int:=(Da fr k).map λp:Nat=>(p:Int)
theorem Hx(fr:List Int)(k:Nat):iC fr (k+1)=iC fr k++(bif fr[k]? ==some (-1)then[]else[(k:Int)]):=by
 grind [iC,Da,List.range_succ]
theorem FF(fr:List Int)(k:Nat):(iC fr k).length<=k:=by
 grind [iC,Da]
theorem Hy(fr:List Int)(k:Nat):(Da fr k).Nodup:=List.filter_sublist.nodup List.nodup_range
theorem FG{fr:List Int}{k p:Nat}:p∈Da fr k<->p<k/\fr[p]? ≠some (-1):=by
 grind [Da]
theorem mn{ow:List Int}{o:Int}(h:∀x,x∈ow->x≠o)(k:Nat):cI ow o k=[]:=by
 grind [cI,List.map_eq_nil_iff,List.filter_eq_nil_iff,List.mem_of_getElem?]
structure kZ(L:eA)(k0 k:C1)(j:Nat):Prop where
 rep:nQ L k
 fr:∀p:Nat,k.fr[p]? =if p∈(Da k0.fr L.n).take j then some (-1)else k0.fr[p]?
theorem kZ.none{L:eA}{k:C1}(h:nQ L k):kZ L k k 0:=⟨h,λp=>by simp⟩
theorem kZ.at_{L:eA}{k0 k:C1}{j p:Nat}(h:kZ L k0 k j)(h0:nQ L k0)(hp:(Da k0.fr L.n)[j]? =some p):p<L.n/\∃f:Nat,k.fr[p]? =some (f:Int)/\16<=f/\f<256/\k.ow[f]? =some (L.o:Int)/\kZ L k0 {k with ow:=k.ow.set f (-1),fr:=k.fr.set p (-1),gd:=k.gd.set p false} (j+1):=by
 have hm:=FG.1 (ak hp);have hjl:=(aj.1 hp).1;have hnt:p∉(Da k0.fr L.n).take j:=λhc=>by
  grind [Hy,List.mem_iff_getElem?,List.getElem?_eq_some_iff,List.getElem_inj]
 have e:=h.fr p;rw[if_neg hnt]at e;rcases h0.RY p hm.1 with h1|⟨f,h1, -⟩
 .grind
 rw[h1]at e;obtain⟨⟨a1,a2,a3⟩,hu⟩:=h.rep.unmap e;refine⟨hm.1,f,e,a1,a2,a3,hu,λq=>?_⟩;show(k.fr.set p (-1))[q]? =_;rw[List.take_add_one,hp];by_cases hqp:p=q
 .grind
 rw[List.getElem?_set_ne hqp,h.fr q]
 grind
theorem kZ.all{L:eA}{k0 k:C1}(h:kZ L k0 k (Da k0.fr L.n).length)(h0:nQ L k0):∀p:Nat,p<L.n->k.fr[p]? =some (-1):=λp hp=>by
 have e:=h.fr p
 grind [FG]
def nE(ow:List Int)(k:Nat):Nat:=((List.range' 16 (k - 16)).filter (λf=>ow[f]? ==some (-1))).length
theorem If(ow:List Int){k:Nat}(h:16<=k):nE ow (k+1)=nE ow k+(bif ow[k]? ==some (-1)then 1 else 0):=by
 unfold nE;rw[show k+1 - 16=(k - 16)+1 by omega,List.range'_concat,List.filter_append,aq,show 16+1*(k - 16)=k by omega]
 grind
theorem PF(ow:List Int)(k:Nat):nE ow k<=k:=by
 grind [nE]
theorem ctr_O{P:Program}{f:FuncId}{args:List Value}{w:World}{α:Type}{bs:List Nat}{F:α->List bC}{hb:∀a,bD (F a)=bs}{p:α->Prop}{K:Value->List bC->Prop}
  (hi:Inv w (bD [exC bs F hb p]) [exC bs F hb p] w) (h:∀a,p a->Inv w (bD (F a)) (F a) w->Ctr P f args w (F a) K):Ctr P f args w [exC bs F hb p] K:=by
 obtain⟨a,h1,h2⟩:=hi.SX;have e:bD [exC bs F hb p]=bD (F a):=by rw[eH,yu,az,hb a];rfl
 rw[az,e]at h2;refine Calls.mono (h a h1 h2) ?_
 grind
def mJ(ow:List Int)(fs:List Int)(k:Nat):List Int:=(fs.take k).foldl (λa f=>a.set f.toNat (-1)) ow
theorem vW{ow fs:List Int}{k:Nat}{f:Int}(h:fs[k]? =some f):mJ ow fs (k+1)=(mJ ow fs k).set f.toNat (-1):=by
 grind [mJ,List.take_add_one]
theorem Ie(ow fs:List Int):∀k,(mJ ow fs k).length=ow.length
 :=by intro y1;induction y1<;>grind [mJ,vW,List.take_add_one,Option.toList_none,List.length_set]
section
theorem Fx(bp:Nat)(B ow pr:List Int)(hl:dg B ow pr)(o:Nat)(ho:o<4)(A:Option Addr)(c:Nat)(fs:List Int)(hf:∀(j:Nat) (f:Int),fs[j]? =some f->∃g:Nat,f=(g:Int)/\16<=g/\g<256/\ow[g]? =some (o:Int)/\(fs.take j).contains f=false)(w:World)
  (hi:Inv w (bD [cV bp B ow pr]) [cV bp B ow pr] w) (hrd:∀w',cY (bD [cV bp B ow pr]) w w'->Rd w' .i64 A fs.length c fs):
  Ctr prog 110 [.p bp,.i o,.slice A fs.length c] w [cV bp B ow pr] (λv cs=>v= .i 0/\cs=[cV bp B (mJ ow fs fs.length) pr]):=by
 have hrw:=hrd w (cY.refl _ _);have hcap:=hrw.cap;have hmx:=hrw.max;simp only[maxLen]at hmx;have hl':∀k,dg B (mJ ow fs k) pr:=λk=>⟨hl.b,by rw[Ie];exact hl.ow,hl.pr⟩
 refine Zfn func110 ntmps110 hi ?_;refine Z_9 ?_;refine Wq85 ?_;refine ji ?_;refine gK ?_;refine bN (λk:Nat=>[(0,.p bp),(1,.i o),(2,.slice A fs.length c),(14,.slice A fs.length c),(15,.i (fs.length:Int)),(16,.i (k:Int))]) (λ_=>[cV bp B ow pr]) (λk=>k<=fs.length) (λk=>fs.length - k) (0) ?_ ?_ ?_ ?_
 .omega
 .exact Zwk
 .exact Zu
 rintro k hk;refine Zw6 ?_ ?_<;>intro hc4
 .simp only[ae]at hc4;have hkl:k<fs.length:=Wq1;obtain⟨ad,rfl⟩:=hrw.some_ Wq1;have hx:=aa hkl;obtain⟨x,hxx⟩:=Zgn (fs[k]'hkl);rw[hxx]at hx;obtain⟨g,rfl,h16,h256,how,hcn⟩:=hf k x hx;have hlk:(fs.take k).length=k:=List.length_take_of_le hk;have HC:=pI (some ad) c (fs.take k) g;have hrt:=λw' hk'=>kp (hrd w' hk') k
  rw[hlk]at HC hrt;refine Z_7 ?_;refine CS ?_;refine dK (bF Zrf Zv0) (qq hrd (cq hx)) rfl (Z_7 ?_);refine ZSe (λw hi=>F2 g w) ?_;rw[ay (show(16:Int)<=g by omega),ay (show(g:Int)<256 by omega)];refine Z_5 ?_;refine ZFb 16384 ?_;refine Zyn rfl rfl (dE (j:=g) (sz:=1) (r:=16384+g) rfl Zrf (bU rfl) (bU rfl) Wq2 Wq2 Wq1) ?_;refine fN (bE rfl rfl) (bF Zrf (bU rfl)) (cN Zh (rL hl how)) rfl (ZB ?_);refine Zyn rfl rfl (j8 (bU rfl) (bU rfl) (show((o:Int) !=(o:Int))=false from by simp)) ?_;refine Z_4 ?_;refine Zyn rfl rfl (fH k rfl Zrf (bU rfl) (bU rfl) AH Wq2) ?_;refine ZB ?_;refine gU (bE rfl rfl) rfl (dW rfl (λ_ _=>rfl) (λw hi=>HC w (hrt w hi.Sf))) rfl ?_;rintro _ _ ⟨_,⟨rfl,rfl⟩,rfl⟩;rw[hcn];refine ji ?_;refine gh ?_;refine dM (k+1) ?_ ?_ ?_
  .omega
  .exact Zwk
  exact Zu
 simp only[ac]at hc4;obtain rfl:fs.length=k:=Wq1;refine Z_8 ?_;rw[show ow=mJ ow fs 0 from rfl];refine Z_6 ?_;refine bN (λk:Nat=>[(0,.p bp),(42,.slice A fs.length c),(43,.i (fs.length:Int)),(44,.i (k:Int))]) (λk=>[cV bp B (mJ ow fs k) pr]) (λk=>k<=fs.length) (λk=>fs.length - k) (0) ?_ ?_ ?_ ?_
 .omega
 .exact Zwk
 .exact Zu
 rintro k hk;refine Zw6 ?_ ?_<;>intro hc10
 .simp only[ae]at hc10;have hkl:k<fs.length:=Wq1;obtain⟨ad,rfl⟩:=hrw.some_ Wq1;have hx:=aa hkl;obtain⟨x,hxx⟩:=Zgn (fs[k]'hkl);rw[hxx]at hx;obtain⟨g,rfl,h16,h256,how,hcn⟩:=hf k x hx;have hsu:mJ ow fs (k+1)=(mJ ow fs k).set g (-1):=(by rw[vW hx,aM]);refine Z_6 ?_;refine CS ?_;refine dK (bF Zrf Zv0) (qq hrd (cq hx)) rfl (Z_7 ?_);refine ZFa 16384 ?_;refine Zy (dE (j:=g) (sz:=1) (r:=16384+g) rfl Zrf (Zv rfl) (Zv rfl) Wq2 Wq2 Wq1) ?_;refine eE (iL Zrf rfl rfl rfl Za (by rw[iN (hl' k)];omega)) ?_;rintro _ _ ⟨rfl,rfl⟩;rw[rK (hl' k) (show g<256 by omega),<-hsu];refine gh ?_;refine dM (k+1) ?_ ?_ ?_
  .omega
  .exact Zwk
  exact Zu
 simp only[ac]at hc10;obtain rfl:fs.length=k:=Wq1;refine gK ?_;exact AI
theorem OA(bp:Nat)(B ow pr:List Int)(hl:dg B ow pr)(o:Nat)(ho:o<4)(hno:∀x,x∈ow->x≠(o:Int))(w:World)(hi:Inv w (bD [cV bp B ow pr]) [cV bp B ow pr] w):
  Ctr prog 89 [.p bp,.i o] w [cV bp B ow pr] (λv cs=>v= .i 0/\cs=[cV bp B ow (pr.set o (-1))]):=by
 have he:=mn hno 256;refine Zfn func89 ntmps89 hi ?_;refine Z_9 ?_;refine Wq85 ?_;refine ji ?_;refine Z_6 ?_;refine ZSn (λw hi=>Ej bp B ow pr hl o ho w (hi.get Zh)) ?_;rintro _ _ ⟨A1,c1,rfl,rfl⟩;rw[he];refine Z_8 ?_;refine ZcM ([cV bp B ow pr]) (λw hi hin=>Fx bp B ow pr hl o ho A1 c1 [] (λj f h=>by simp at h) w hin (λw' hk=>hi.Sr Zi (show Has _ (sl .i64 3 A1 0 c1 [])from Zh) hk)) ?_;rw[show mJ ow [] ([]:List Int).length=ow from rfl];refine Z_7 ?_;refine QE ?_;refine Qt ?_;rintro _ _ ⟨rfl,rfl⟩;rw[rJ hl];refine fB ?_;exact AI
theorem Oz(bp:Nat)(B ow pr:List Int)(hl:dg B ow pr)(w:World)(hp:(cV bp B ow pr).ok w):
  Ctr prog 42 [.p bp] w [] (λv cs=>v= .i (nE ow 256:Nat)/\cs=[]):=by
 refine Zfs func42 ntmps42 ?_;refine AG ?_;refine bN (λk:Nat=>[(0,.p bp),(3,.i (nE ow k:Nat)),(4,.i (k:Int))]) (λ_=>[]) (λk=>16<=k/\k<=256) (λk=>256 - k) (16) ?_ ?_ ?_ ?_
 .omega
 .exact Zwk
 .exact Zu
 rintro k ⟨hk1,hk2⟩;have hle:=PF ow k;have hsu:=If ow hk1;refine Zw7 ?_ ?_<;>intro hc3
 .simp only[ae]at hc3;have hkl:k<ow.length:=(by rw[hl.ow];omega);have hok:=aa hkl;obtain⟨x,hxx⟩:=Zgn (ow[k]'hkl);rw[hxx]at hok;rw[hok,show(some x==some (-1:Int))=(x== -1)from rfl]at hsu;refine Z_9 ?_;refine Wq329 ?_;refine dK (bF Zrf Zv0) (dc hp (rL hl hok)) rfl (Zw3 ?_ ?_)<;>intro hc5
  .rw[show(x== -1)=true from hc5,ai]at hsu;refine Z_2 ?_;refine Zy (ef (Zv rfl) (Zv rfl) (show _=((nE ow (k+1):Nat):Int)from by rw[IntWalk.i64_in _ ⟨by omega,by omega⟩];omega)) ?_;refine Z_6 ?_;refine Wq6 ?_;refine dM (k+1) ?_ ?_ ?_
   .omega
   .exact Zwk
   exact Zu
  rw[show(x== -1)=false from hc5,ah]at hsu;refine gv ?_;rw[show nE ow k=nE ow (k+1) by omega];refine dM (k+1) ?_ ?_ ?_
  .omega
  .exact Zwk
  exact Zu
 simp only[ac]at hc3;obtain rfl:k=256:=Wq1;refine fD ?_;exact pM
theorem GR(bt bp o bf bg n:Nat)(hn:n<=64)(fr:List Int)(hfr:fr.length=n)(w:World)(h:(iy bt bp o bf bg n).ok w)(h2:(frC bf n fr).ok w):
  Ctr prog 108 [.p bt] w [] (λv cs=>∃A c,v= .slice A (iC fr n).length c/\cs=[sl .i64 3 A (iC fr n).length c (iC fr n)]):=by
 have hrd:=eL h2;refine Zfs func108 ntmps108 ?_;refine kM ?_;refine cT 3 1 (Z_3 ?_);refine MV ?_;refine Z_5 ?_;refine bN (λs:Nat×Option Addr×Nat=>[(3,.slice s.2.1 (iC fr s.1).length s.2.2),(9,.slice (sA bf) n n),(10,.i (n:Int)),(11,.i (s.1:Int))]) (λs=>[sl .i64 3 s.2.1 (iC fr s.1).length s.2.2 (iC fr s.1)]) (λs=>s.1<=n) (λs=>n - s.1) ((0,none,0)) ?_ ?_ ?_ ?_
 .omega
 .exact Zwk
 .exact Zu
 rintro⟨k,A1,c1⟩ hk;simp only at hk;dsimp only;refine Zw6 ?_ ?_<;>intro hc3
 .simp only[ae]at hc3;have hkl:k<fr.length:=Wq1;have hok:=aa hkl;obtain⟨x,hxx⟩:=Zgn (fr[k]'hkl);rw[hxx]at hok;have hle:=FF fr k;have hsu:=Hx fr k;rw[hok,show(some x==some (-1:Int))=(x== -1)from rfl]at hsu;refine Z_7 ?_;refine CS ?_;refine dK (bF Zrf Zv0) (dL hrd (cq hok)) rfl (pV ?_ ?_)<;>intro hc5
  .have he:iC fr (k+1)=iC fr k++[(k:Int)]:=bR;refine Z_3 ?_;refine kY ?_;rintro _ _ ⟨b20,rfl,rfl⟩;refine fW (cj (e:=3) (sz:=1) (bytes:=8) rfl rfl Za rfl rfl (λw hi=>hi.rd Zh) (mO rfl) gq Wq1) rfl ?_;rintro _ _ ⟨A2,c2,rfl,rfl⟩;rw[show(iC fr k).length+1=(iC fr (k+1)).length by grind,show ints .i64 (iC fr k)++[Value.i (k:Int)]=ints .i64 (iC fr (k+1)) by(rw[he];exact bX _ [_])];refine gv ?_;refine dM ((k+1,A2,c2)) ?_ ?_ ?_
   .omega
   .exact Zwk
   exact Zu
  have he:iC fr (k+1)=iC fr k:=bR;rw[<-he];refine gh ?_;refine dM ((k+1,A1,c1)) ?_ ?_ ?_
  .omega
  .exact Zwk
  exact Zu
 simp only[ac]at hc3;obtain rfl:k=n:=Wq1;refine fD ?_;exact IC
abbrev tpF(L:eA)(k:C1):List bC:=[iy L.bt L.bp L.o L.bf L.bg L.n,frC L.bf L.n k.fr,gdC L.bg L.n k.gd,cV L.bp k.B k.ow k.pr]
theorem Ju(L:eA)(k:C1)(hk:nQ L k)(o4:L.o<4)(n64:L.n<=64)(p f:Nat)(hp:p<L.n)(hf:k.fr[p]? =some (f:Int))(w:World)(hi:Inv w (bD (tpF L k)) (tpF L k) w):
  Ctr prog 109 [.p L.bt,.i p] w (tpF L k) (λv cs=>v= .i 0/\cs=tpF L {k with ow:=k.ow.set f (-1),fr:=k.fr.set p (-1),gd:=k.gd.set p false}):=by
 obtain⟨⟨h16,h256,how⟩,hu⟩:=hk.unmap hf;refine Zfn func109 ntmps109 hi ?_;refine Z_9 ?_;refine ZSe (λw hi=>kg L.bt L.bp L.o L.bf L.bg L.n p k.fr f hp hf w (hi.get Zh) (hi.get Zh)) ?_;rw[pE];refine iT ?_;refine iU ?_;refine Z_3 ?_;refine bL ⟨λj=>List.elem j [11,13],[]⟩ Zk (lU ?_);refine ZFe 2 2 ?_;refine oO ?_;refine ZE 6 ?_;refine ZFe 7 3 ?_;refine ZG 8 ?_;refine ZE 9 ?_;refine Zy4 10 rfl (bV (j:=p) (sz:=1) (r:=p) rfl Zrf (Zv rfl) (Zv rfl) Wq2 Wq2 Wq1) ?_;refine cn 11 Zk (fO rfl rfl (iK Zrf rfl rfl rfl Za Wq1) ZJ ?_);rintro _ _ ⟨rfl,rfl⟩;rw[fR];refine Zy4 12 rfl (bV (j:=p) (sz:=1) (r:=p) rfl Zrf (Zv rfl) (Zv rfl) Wq2 Wq2 Wq1) ?_;refine cn 13 Zk (fO rfl rfl (iK Zrf rfl rfl rfl Za Wq1) ZJ ?_);rintro _ _ ⟨rfl,rfl⟩;rw[CL];refine lv ?_;refine bL ⟨λj=>List.elem j [10],[]⟩ Zk (lU ?_);refine ZFe 2 0 ?_;refine oO ?_;refine ZFe 6 1 ?_;refine ZG 7 ?_;refine ZE 8 ?_;refine cn 9 Zk (AR ?_);rintro _ _ ⟨b36,rfl,rfl⟩;refine cn 10 Zk (pL ([cV L.bp k.B k.ow k.pr]) (λw hi hin=>Fx L.bp k.B k.ow k.pr hk.pl L.o o4 (sA b36) 1 [(f:Int)] (λj x hx=>by grind) w hin (λw' hk=>hi.Sr Zi (show Has _ (sl .i64 3 (sA b36) 1 1 [(f:Int)])from Zh) hk)) ?_);rintro _ _ ⟨rfl,rfl⟩;refine eQ ?_;refine Z_7 ?_;refine bG (tpF L {k with ow:=k.ow.set f (-1),fr:=k.fr.set p (-1),gd:=k.gd.set p false}) Zj (Zrb ([row _ _ _,slv _ _ _ _ _ _,slv _ _ _ _ _ _,row _ _ _]) ?_);exact fy
theorem Ke(L:eA)(M:Mem)(hl:L.gw.length=256)(hno:∀x,x∈L.gw->x≠(L.o:Int))(w:World)(hi:Inv w (bD [eG L M]) [eG L M] w):
  Ctr prog 88 [.p L.bm] w [eG L M] (λ_ cs=>∃B,(dg B L.gw L.gp/\∀f,f<256->L.oth f=true->∀j,j<64->B[f*64+j]? =L.gB[f*64+j]?)/\cs=[cV L.bp B L.gw L.gp]):=by
 refine ctr_O hi λk hk hi=>?_
 have n64:=hk.n64;have o4:=hk.o4;have hfr:=hk.fr;have htl:=hk.tl;have hml:(iC k.fr L.n).length=(Da k.fr L.n).length:=aV _;have hmt:=FF k.fr L.n;refine Zfn func88 ntmps88 hi ?_;unfold D2;refine Z_7 ?_;refine ZSn (λw hi=>GR L.bt L.bp L.o L.bf L.bg L.n n64 k.fr hfr w (hi.get Zh) (hi.get Zh)) ?_;rintro _ _ ⟨A1,c1,rfl,rfl⟩;refine ZA ?_;refine dN (sl .i64 3 A1 (iC k.fr L.n).length c1 (iC k.fr L.n)::sQ L M.RQ::tpF L k) Zj (Z_4 ?_);refine bN (λq:Nat×C1=>[(0,.p L.bm),(8,.slice A1 (iC k.fr L.n).length c1),(9,.i ((iC k.fr L.n).length:Int)),(10,.i (q.1:Int))]) (λq=>sl .i64 3 A1 (iC k.fr L.n).length c1 (iC k.fr L.n)::sQ L M.RQ::tpF L q.2) (λq=>kZ L k q.2 q.1/\q.1<=(Da k.fr L.n).length) (λq=>(Da k.fr L.n).length - q.1) ((⟨0,k⟩:Nat×C1)) ?_ ?_ ?_ ?_
 .exact⟨.none hk.tab,au _⟩
 .exact Zwk
 .exact Zu
 rintro⟨j,k'⟩ ⟨hU,hj⟩;dsimp only at hU hj|-;refine Zw6 ?_ ?_<;>intro hc1
 .simp only[ae]at hc1;have hjl:j<(Da k.fr L.n).length:=Wq1;have hp:=aa hjl;obtain⟨p,hpp⟩:=Zgn ((Da k.fr L.n)[j]'hjl);rw[hpp]at hp;obtain⟨hpn,f,hf,h16,h256,how,hU2⟩:=hU.at_ hk.tab hp;have hpm:(iC k.fr L.n)[j]? =some (p:Int):=(by unfold iC;grind);refine mU (λw hi=>dV (hi.get (show Has _ (sl .i64 3 A1 (iC k.fr L.n).length c1 (iC k.fr L.n))from Zh)) Wq1) (λhA=>?_);obtain⟨ba,rfl⟩:=hA;refine Z_6 ?_;refine Zy (bV (j:=j) (sz:=1) (r:=j) rfl Zrf (Zv rfl) (Zv rfl) Wq2 Wq2 Wq1) ?_;refine dK (bF Zrf Zv0) (cM Zh (cq hpm)) rfl (Z_9 ?_);refine ZcM (tpF L k') (λw hi hin=>Ju L k' hU.rep o4 n64 p f hpn hf w hin) ?_;refine gh ?_;refine bJ ((⟨j+1,{k' with ow:=k'.ow.set f (-1),fr:=k'.fr.set p (-1),gd:=k'.gd.set p false}⟩:Nat×C1)) ?_ ?_ ?_
  .grind
  .exact Zwk
  exact Zj
 simp only[ac]at hc1;obtain rfl:j=(Da k.fr L.n).length:=Wq1;obtain⟨e1,e2⟩:=hU.rep.none (hU.all hk.tab) hl hno;have e3:=hU.rep.prs;have e4:=hU.rep.pl;refine Z_8 ?_;refine ZFa 66 ?_;refine eE (iL Zrf rfl rfl rfl Za (by rw[nm htl];omega)) ?_;rintro _ _ ⟨rfl,rfl⟩;refine Zn (bG [cV L.bp k'.B k'.ow k'.pr] Zj ?_);refine iY (cs':=[cV L.bp k'.B k'.ow k'.pr]) (.inr rfl) Zu rfl ?_;rw[e1,e3]at e4|-;exact⟨k'.B,⟨e4,e2⟩,rfl⟩
structure oW where
 B:List Int
 ow:List Int
 pr:List Int
def eA.on(L:eA)(P:oW):eA:={L with gw:=P.ow.map (λx=>if x=(L.o:Int)then -1 else x),gB:=P.B,gp:=P.pr}
structure lT(P:oW):Prop where
 len:dg P.B P.ow P.pr
 own:∀f:Nat,f<256->P.ow[f]? =some (-1)\/∃o:Nat,o<4/\P.ow[f]? =some (o:Int)
 few:∀(o:Nat) (p:Int),P.pr[o]? =some p->((cI P.ow o 256).length:Int)<=(if 0>p then 0 else p)
 sum:fY P.pr 4<=240
abbrev sE(L:eA)(P:oW)(M:Mem)(fr:List Int)(gd:List Bool):Prop:=dJ (L.on P) M ⟨P.B,P.ow,P.pr,fr,gd⟩
theorem on_gw{L:eA}{P:oW}{f:Nat}:(L.on P).gw[f]? =(P.ow[f]?).map (λx=>if x=(L.o:Int)then -1 else x):=by
 show(P.ow.map _)[f]? =_
 grind
theorem kS{L:eA}{P:oW}{f:Nat}:(L.on P).oth f=true<->∃x,P.ow[f]? =some x/\x≠ -1/\x≠(L.o:Int):=by
 unfold eA.oth;rw[on_gw];rcases h:P.ow[f]? with _|x
 .simp
 show(((if x=(L.o:Int)then(-1:Int)else x) != -1)&&((if x=(L.o:Int)then(-1:Int)else x) !=(L.o:Int)))=true<->_
 grind
theorem vo{L:eA}{P:oW}{f:Nat}(h:(L.on P).oth f=true):(L.on P).gw[f]? =P.ow[f]? :=by
 grind [kS,on_gw]
theorem DO{L:eA}{P:oW}:∀x,x∈(L.on P).gw->x≠(L.o:Int):=λx hx=>by
 obtain⟨y, -,rfl⟩:=bn.1 hx;omega
theorem Ew{α:Type}(p q0 q1 q2 q3:α->Bool):∀l:List α,(∀x,x∈l->p x=true->q0 x=true\/q1 x=true\/q2 x=true\/q3 x=true)->(l.filter p).length<=(l.filter q0).length+(l.filter q1).length+(l.filter q2).length+(l.filter q3).length
 :=by intro y1;induction y1<;>grind
theorem Eo{α:Type}(p:α->Bool):∀l:List α,(l.filter p).length+(l.filter (λx=> !p x)).length=l.length
 :=by intro y1;induction y1<;>grind
theorem rz(a b c d:Int):fY [a,b,c,d] 4=(if 0>a then 0 else a)+(if 0>b then 0 else b)+(if 0>c then 0 else c)+(if 0>d then 0 else d):=by
 show((((0:Int)+_)+_)+_)+_=_;omega
theorem lT.cap{P:oW}(h:lT P){L:eA}(ho:L.o<4)(hp:P.pr[L.o]? =some (L.n:Int)):L.n<=((List.range' 16 240).filter (λf=> !(L.on P).oth f)).length:=by
 have hsub:List.Sublist (List.range' 16 240) (List.range 256):=by decide+kernel
 have hq:∀(o:Nat) (b:Bool),(b=true->o≠L.o)->((List.range' 16 240).filter (λf=>(P.ow[f]? ==some (o:Int))&&b)).length<=(bif b then(cI P.ow o 256).length else 0):=λo b hb=>by
  cases b with
  |false=>simp
  |true=>
   grind [cI]
 have hlen:=h.len.pr;obtain⟨a0,a1,a2,a3,hpr⟩:∃a b c d,P.pr=[a,b,c,d]:=by
  match hh:P.pr,hlen with
  |[a,b,c,d],_=>grind
 have hs:=h.sum;rw[hpr,rz]at hs;have f0:=h.few 0 a0 bR;have f1:=h.few 1 a1 bR;have f2:=h.few 2 a2 bR;have f3:=h.few 3 a3 bR;have hc:=Ew (λf=>(L.on P).oth f) (λf=>(P.ow[f]? ==some ((0:Nat):Int))&&(L.o !=0)) (λf=>(P.ow[f]? ==some ((1:Nat):Int))&&(L.o !=1)) (λf=>(P.ow[f]? ==some ((2:Nat):Int))&&(L.o !=2)) (λf=>(P.ow[f]? ==some ((3:Nat):Int))&&(L.o !=3)) (List.range' 16 240) (λf hf ht=>by
  rw[List.mem_range'_1]at hf;obtain⟨x,h1,h2,h3⟩:=kS.1 ht;rcases h.own f (by omega)with h4|⟨o,h4,h5⟩
  ·grind
  rw[h1]at h5;obtain rfl:=ax h5;have hne:o≠L.o:=λe=>h3 (by rw[e])
  rw[h1];obtain rfl|rfl|rfl|rfl:o=0\/o=1\/o=2\/o=3:=by omega
  ·grind
  ·grind
  ·grind
  grind)
 have g0:=hq 0 (L.o !=0) (λe=>by grind);have g1:=hq 1 (L.o !=1) (λe=>by grind);have g2:=hq 2 (L.o !=2) (λe=>by grind);have g3:=hq 3 (L.o !=3) (λe=>by grind);have hpt:=Eo (λf=>(L.on P).oth f) (List.range' 16 240);rw[List.length_range']at hpt;rw[hpr]at hp;obtain e|e|e|e:L.o=0\/L.o=1\/L.o=2\/L.o=3:=by omega
 .rw[e]at hp g0 g1 g2 g3;obtain rfl:a0=(L.n:Int):=ax hp;simp only[bj,ah,show((0:Nat) !=1)=true from rfl,show((0:Nat) !=2)=true from rfl,show((0:Nat) !=3)=true from rfl,ai]at g0 g1 g2 g3;rw[e]at hc;simp only[bj,show((0:Nat) !=1)=true from rfl,show((0:Nat) !=2)=true from rfl,show((0:Nat) !=3)=true from rfl]at hc;omega
 .rw[e]at hp g0 g1 g2 g3;obtain rfl:a1=(L.n:Int):=ax hp;simp only[bj,ah,show((1:Nat) !=0)=true from rfl,show((1:Nat) !=2)=true from rfl,show((1:Nat) !=3)=true from rfl,ai]at g0 g1 g2 g3;rw[e]at hc;simp only[bj,show((1:Nat) !=0)=true from rfl,show((1:Nat) !=2)=true from rfl,show((1:Nat) !=3)=true from rfl]at hc;omega
 .rw[e]at hp g0 g1 g2 g3;obtain rfl:a2=(L.n:Int):=ax hp;simp only[bj,ah,show((2:Nat) !=0)=true from rfl,show((2:Nat) !=1)=true from rfl,show((2:Nat) !=3)=true from rfl,ai]at g0 g1 g2 g3;rw[e]at hc;simp only[bj,show((2:Nat) !=0)=true from rfl,show((2:Nat) !=1)=true from rfl,show((2:Nat) !=3)=true from rfl]at hc;omega
 rw[e]at hp g0 g1 g2 g3;obtain rfl:a3=(L.n:Int):=ax hp;simp only[bj,ah,show((3:Nat) !=0)=true from rfl,show((3:Nat) !=1)=true from rfl,show((3:Nat) !=2)=true from rfl,ai]at g0 g1 g2 g3;rw[e]at hc;simp only[bj,show((3:Nat) !=0)=true from rfl,show((3:Nat) !=1)=true from rfl,show((3:Nat) !=2)=true from rfl]at hc;omega
theorem Cf{ow ow':List Int}{o:Int}(h:∀f:Nat,f<256->(ow'[f]? =some o<->ow[f]? =some o)):cI ow' o 256=cI ow o 256:=by
 grind [cI,List.filter_congr]
section
variable {P P':oW} {L Lj:eA} {M M' Mj:Mem} {fr frj:List Int} {gd gdj:List Bool} {k:C1}
structure wK(L:eA)(P P':oW):Prop where
 len:dg P'.B P'.ow P'.pr
 o4:L.o<4
 at_:∀f:Nat,f<256->((L.on P).oth f=false/\(P'.ow[f]? =some (-1)\/P'.ow[f]? =some (L.o:Int)))\/((L.on P).oth f=true/\P'.ow[f]? =P.ow[f]? /\∀j,j<64->P'.B[f*64+j]? =P.B[f*64+j]?)
 pr:∀o:Nat,o≠L.o->P'.pr[o]? =P.pr[o]?
 few:∀p:Int,P'.pr[L.o]? =some p->((cI P'.ow L.o 256).length:Int)<=(if 0>p then 0 else p)
 sum:fY P'.pr 4<=240
theorem wK.oth(h:wK L P P'){f:Nat}(hf:f<256){x:Int}(h1:x≠ -1)(h2:x≠(L.o:Int)):P'.ow[f]? =some x<->P.ow[f]? =some x:=by
 rcases h.at_ f hf with⟨e0,e1|e1⟩|⟨-,e1, -⟩
 .grind [kS]
 .grind [kS]
 rw[e1]
theorem wK.byte(h:wK L P P'){f:Nat}(hf:f<256){x:Int}(h1:x≠ -1)(h2:x≠(L.o:Int))(h3:P.ow[f]? =some x):∀j,j<64->P'.B[f*64+j]? =P.B[f*64+j]? :=by
 rcases h.at_ f hf with⟨e0, -⟩|⟨-, -,e1⟩
 .grind [kS]
 exact e1
theorem lT.turn(hP:lT P)(h:wK L P P'):lT P':=by
 refine⟨h.len,λf hf=>?_,λo p hp=>?_,h.sum⟩
 .rcases h.at_ f hf with⟨-,e1|e1⟩|⟨-,e1, -⟩
  .grind
  .grind [h.o4]
  rw[e1];exact hP.own f hf
 by_cases e:o=L.o
 .subst e;exact h.few p hp
 rw[Cf (λf hf=>h.oth hf (x:=(o:Int)) Wq1 Wq1)];exact hP.few o p (by rw[<-h.pr o e];exact hp)
theorem sE.other(hP:lT P)(h:wK L P P')(hj:sE Lj P Mj frj gdj)(hne:Lj.o≠L.o):sE Lj P' Mj frj gdj:=by
 have hpj:P'.pr[Lj.o]? =some (Lj.n:Int):=by rw[h.pr _ hne];exact hj.prom
 refine⟨h.len,hj.o4,hj.n1,hj.n64,hj.fr,hj.gd,hj.dl,hj.tl,hj.db,λp hp=>?_,hj.inj,λf hf=>?_,hpj,rfl,(hP.turn h).cap (L:=Lj) hj.o4 hpj⟩
 .rcases hj.RY p hp with e|⟨f,e1,e2,e3,e4,e5⟩
  .exact .inl e
  change P.ow[f]? =some (Lj.o:Int)at e4
  refine .inr ⟨f,e1,e2,e3,(h.oth e3 (x:=(Lj.o:Int)) Wq1 Wq1).2 e4,λj hjj=>?_⟩;show P'.B[f*64+j]? =_;rw[h.byte e3 (x:=(Lj.o:Int)) Wq1 Wq1 e4 j hjj]
  grind
 have hx:∃x,P'.ow[f]? =some x:=⟨_,aa (show f<P'.ow.length by rw[h.len.ow];exact hf)⟩;obtain⟨x,hx⟩:=hx;have no:∀y:Int,y= -1\/y=(Lj.o:Int)->x=y->(Lj.on P').oth f=false:=λy hy e=>by
  grind [kS]
 by_cases e1:x= -1
 .grind
 by_cases e2:x=(Lj.o:Int)
 .subst e2;have e3:=(h.oth hf (x:=(Lj.o:Int)) Wq1 Wq1).1 hx;rcases hj.held f hf with⟨-,e4⟩|⟨-, -,e4⟩|⟨e4, -⟩
  .grind
  .exact .inr (.inl ⟨no _ (.inr rfl) rfl,hx,e4⟩)
  grind [kS]
 have e6:(Lj.on P').oth f=true:=kS.2 ⟨x,hx,e1,e2⟩;exact .inr (.inr ⟨e6,(vo e6).symm,λ_ _=>rfl⟩)
theorem dJ.turns(h:dJ (L.on P) M' k)(hP:lT P):wK L P ⟨k.B,k.ow,k.pr⟩:=by
 have hpr:k.pr=P.pr:=h.prs;refine⟨h.pl,h.o4,λf hf=>?_,λo _=>by grind,λp hp=>?_,by grind [fY,hP.sum]⟩
 .rcases h.held f hf with⟨e0,e1⟩|⟨e0,e1, -⟩|⟨e0,e1,e2⟩
  .grind
  .exact .inl ⟨e0,.inr e1⟩
  exact .inr ⟨e0,by grind [vo],e2⟩
 have h1:=h.To.1;have h2:=h.prom
 change k.pr[L.o]? =some (L.n:Int)at h2
 change k.pr[L.o]? =some p at hp
 rw[hp]at h2;obtain rfl:=ax h2
 change (cI k.ow L.o 256).length<=L.n at h1
 grind
theorem sE.own(hP:lT P)(h:dJ (L.on P) M' k):sE L ⟨k.B,k.ow,k.pr⟩ M' k.fr k.gd:=by
 refine⟨h.pl,h.o4,h.n1,h.n64,h.fr,h.gd,h.dl,h.tl,h.db,h.RY,h.inj,λf hf=>?_,h.prom,rfl,(hP.turn (h.turns hP)).cap (L:=L) h.o4 h.prom⟩;have e2:∀x:Int,k.ow[f]? =some x->(x= -1\/x=(L.o:Int))->(L.on ⟨k.B,k.ow,k.pr⟩).oth f=false:=λx e hx=>by
  grind [kS]
 rcases h.held f hf with⟨-,e1⟩|⟨-,e1,q,hq⟩|⟨e0,e1, -⟩
 .grind
 .exact .inr (.inl ⟨e2 _ e1 (.inr rfl),e1,q,hq⟩)
 obtain⟨x,e3,e4,e5⟩:=kS.1 e0;have e6:(L.on ⟨k.B,k.ow,k.pr⟩).oth f=true:=kS.2 ⟨x,by grind [vo],e4,e5⟩;exact .inr (.inr ⟨e6,(vo e6).symm,λ_ _=>rfl⟩)
theorem uV{l:List Int}(hl:l.length=4){o:Nat}(ho:o<4){p:Int}(hp:l[o]? =some p)(q:Int):fY (l.set o q) 4=fY l 4 - (if 0>p then 0 else p)+(if 0>q then 0 else q):=by
 obtain⟨a,b,c,d,rfl⟩:∃a b c d,l=[a,b,c,d]:=by
  match l,hl with
  |[a,b,c,d],_=>grind
 obtain rfl|rfl|rfl|rfl:o=0\/o=1\/o=2\/o=3:=by omega
 all_goals
  obtain rfl:=ax hp;simp only[List.set_cons_zero,List.set_cons_succ,rz];omega
theorem H3(hP:lT P)(o4:L.o<4){B:List Int}(hl:dg B (L.on P).gw (P.pr.set L.o (-1)))(hb:∀f,f<256->(L.on P).oth f=true->∀j,j<64->B[f*64+j]? =P.B[f*64+j]?):wK L P ⟨B,(L.on P).gw,P.pr.set L.o (-1)⟩:=by
 refine⟨hl,o4,λf hf=>?_,λo ho=>by grind,λp hp=>?_,?_⟩
 .cases hb2:(L.on P).oth f with
  |true=>grind [vo]
  |false=>
   refine .inl ⟨rfl,.inl ?_⟩;show(L.on P).gw[f]? =_;obtain⟨x,hx⟩:∃x,(L.on P).gw[f]? =some x:=⟨_,aa (show f<(L.on P).gw.length by rw[hl.ow];exact hf)⟩;have hn:=DO (L:=L) (P:=P) _ (ak hx);have h1:(match(L.on P).gw[f]? with|some x=>x != -1&&x !=(L.o:Int)|none=>false)=false:=hb2
   grind
 .grind [cI,mn,DO]
 show fY (P.pr.set L.o (-1)) 4<=240;have hpl:=hP.len.pr;have e:=uV hpl o4 (aa Wq1) (-1)
 grind [hP.sum]
theorem KK(hP:lT P)(o4:L.o<4)(hno:P.pr[L.o]? =some (-1))(hs:(L.n:Int)+fY P.pr 4<=240):(∀x,x∈P.ow->x≠(L.o:Int))/\wK L P ⟨P.B,P.ow,P.pr.set L.o L.n⟩:=by
 have hpl:=hP.len.pr;have h0:∀x,x∈P.ow->x≠(L.o:Int):=λx hx e=>by
  have h1:=hP.few L.o (-1) hno;obtain⟨f,hf⟩:=List.mem_iff_getElem?.1 hx;have hf2:=(aj.1 hf).1;rw[hP.len.ow]at hf2;have h2:(f:Int)∈cI P.ow L.o 256:=by
   unfold cI;exact bn.2 ⟨f,List.mem_filter.2 ⟨List.mem_range.2 hf2,by grind⟩,rfl⟩
  grind
 refine⟨h0,⟨hP.len.b,hP.len.ow,by grind⟩,o4,λf hf=>?_,λo ho=>by grind,λp hp=>?_,?_⟩
 .grind [hP.len.ow,kS]
 .grind [cI,mn]
 show fY (P.pr.set L.o L.n) 4<=240;rw[uV hpl o4 hno];omega
end
end
end Go.Ink
