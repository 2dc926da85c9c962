/- Lemmas. -/
import Derived.Test.YtakodpimdalajaaGreatDoorPaa
import Derived.Test.YtakodpimdalajaaGreatDoorPab
import Derived.Test.YtakodpimdalajaaGreatDoorPac
import Derived.Test.YtakodpimdalajaaGreatDoorPad
import Derived.Test.YtakodpimdalajaaGreatDoorPag
set_option linter.unusedSimpArgs false
set_option linter.unusedVariables false
set_option maxRecDepth 100000
set_option maxHeartbeats 4000000
namespace Go.Ink
end Go.Ink
namespace Go.Proofs.YtakodpimdalajaaGreatDoor
open Go.RowKit Go.Ink Go.Proofs.Tryz
attribute [local irreducible] OpY bP
end Go.Proofs.YtakodpimdalajaaGreatDoor
namespace Go.Ink
open Go.RowKit
end Go.Ink
namespace Go.Proofs.YtakodpimdalajaaGreatDoor
open Go.RowKit Go.Ink Go.Proofs.Tryz
attribute [local irreducible] OpY bP
end Go.Proofs.YtakodpimdalajaaGreatDoor
namespace Go.Ink
open Go.RowKit
section
variable {n:Nat} {U:Mmu} {s:Sp}
end
section
variable {n:Nat} {U:Mmu} {s:Sp} {d:Dev}
theorem Bh:ia (List.replicate 64 false) 64=[]:=by rfl
end
theorem Dl{w0:World}{S:List Nat}{cs:List bJ}{e sz n c b:Nat}{ad:Addr}{xs vs:List Value}(hc:Has cs (slv e sz (some ad) n c xs))(hv:∀j v,vs[j]? =some v→xs[b+j]? =some v):∀w,Inv w0 S cs w→cells (eJ (ad.add b) 0 vs) w:=fun w hi=>
 ke fun j v hj=>by
  rw[Nat.add_zero];exact(hi.rd hc).at_ ad rfl (b+j) v (hv j v hj)
end Go.Ink
namespace Go.Proofs.YtakodpimdalajaaGreatDoor
open Go.RowKit Go.Ink Go.Proofs.Tryz
attribute [local irreducible] OpY bP
theorem Fy(A A2:Option Addr)(c c2:Nat)(xs ys:List Int)(hx:u8s xs)(hy:u8s ys)(w:World)(h:Rd w .u8 A xs.length c xs)(h2:Rd w .u8 A2 ys.length c2 ys):
  Ctr prog 161 [.slice A xs.length c,.slice A2 ys.length c2] w [] (fun v cs=>v= .bool (xs==ys)∧cs=[]):=by
 refine bL func161 rfl ntmps161 rfl (Inv.start w) ?_;refine Z_8 ?_;refine fq (fun w hi=>lS (h.Jz hi)) (fun hrd6=>?_);refine dL (lD rfl rfl rfl Zv0 hrd6) (fun w hi=>RdV.JQ (h.Jz hi)) rfl ?_;refine ZA ?_;refine fq (fun w hi=>lS (h2.Jz hi)) (fun hrd8=>?_);refine dL (lD rfl rfl rfl Zv0 hrd8) (fun w hi=>RdV.JQ (h2.Jz hi)) rfl ?_;refine Zy (qE rfl (Zv rfl) (Zv rfl) (nX hx hy)) ?_;refine Z_4 ?_;refine Zra ?_;exact df
end Go.Proofs.YtakodpimdalajaaGreatDoor
namespace Go.Ink
open Go.RowKit
end Go.Ink
namespace Go.Proofs.YtakodpimdalajaaGreatDoor
open Go.RowKit Go.Ink Go.Proofs.Tryz
attribute [local irreducible] OpY bP
structure Vw where
 s:St
 m:List Int
 o:List Int
 i:List Int
 k:List Int
 JH:Int
 mask:Int
 killed:Bool
structure VAd where
 X:jq
 Am:Option Addr
 cm:Nat
 Ao:Option Addr
 co:Nat
 Ai:Option Addr
 ci:Nat
 Ak:Option Addr
 ck:Nat
abbrev Vw.cells(v:Vw)(Y:VAd):List Value:=v.s.cells (.slice Y.X.Ad v.s.d.length Y.X.cd) (.slice Y.X.Ar v.s.r.length Y.X.cr)++[.slice Y.Am v.m.length Y.cm,.slice Y.Ao v.o.length Y.co,.slice Y.Ai v.i.length Y.ci,.slice Y.Ak v.k.length Y.ck,.int .u32 v.JH,.int .u32 v.mask,.bool v.killed]
abbrev vv(v:Vw)(Y:VAd):Value:= .agg (v.cells Y).toArray
structure Vw.wf(v:Vw):Prop where
 s:v.s.wf
 m:u8s v.m
 o:u8s v.o
 i:u8s v.i
 k:u8s v.k
structure Ji(w:World)(v:Vw)(Y:VAd):Prop where
 s:lA w v.s Y.X.Ad Y.X.Ar Y.X.cd Y.X.cr
 m:Rd w .u8 Y.Am v.m.length Y.cm v.m
 o:Rd w .u8 Y.Ao v.o.length Y.co v.o
 i:Rd w .u8 Y.Ai v.i.length Y.ci v.i
 k:Rd w .u8 Y.Ak v.k.length Y.ck v.k
theorem Ji.Jz{w0 w:World}{cs:List bJ}{v:Vw}{Y:VAd}(h:Ji w0 v Y)(hi:Inv w0 [] cs w):Ji w v Y:=⟨h.s.Jz hi,h.m.Jz hi,h.o.Jz hi,h.i.Jz hi,h.k.Jz hi⟩
structure BSl where
 A:Option Addr
 c:Nat
 l:List Int
abbrev BSl.v(x:BSl):Value:= .slice x.A x.l.length x.c
def marks(pre:List Int):List Bool:=(List.range 256).map fun f:Nat=>decide ((f:Int)∈pre)
structure ISl where
 A:Option Addr
 c:Nat
 l:List Int
abbrev ISl.v(x:ISl):Value:= .slice x.A x.l.length x.c
abbrev ISl.cells(x:ISl):List Value:=[x.v]
def ISl.rd(x:ISl)(w:World):Prop:=Rd w .i64 x.A x.l.length x.c x.l
theorem Ed(s t:St)(Ad Ar Bd Br:Option Addr)(cd cr ed er:Nat)(w:World)(h:lA w s Ad Ar cd cr)(h2:lA w t Bd Br ed er):
  Ctr prog 24 [sv s Ad cd Ar cr,sv t Bd ed Br er] w [] (fun v cs=>v= .bool (s.Ko t)∧cs=[]):=by
 have HS:=zw s t Ad Ar Bd Br cd cr ed er;refine bL func24 rfl ntmps24 rfl (Inv.start w) ?_;refine Z_2 ?_;refine ZO fun b2=>?_;refine ZO fun b3=>?_
 refine Z_7 ?_;refine dE fy (.cons Zv0 (.cons Zv0 .nil)) (fun _ _=>rfl) (fun hg w hi=>HS w (h.Jz hi) (h2.Jz hi)) rfl ?_;refine Z_4 ?_;refine Zra ?_;exact df
theorem zJ(a b:Vw)(Y Z:VAd)(ha:a.wf)(hb:b.wf)(w:World)(h:Ji w a Y)(h2:Ji w b Z):
  Ctr prog 31 [vv a Y,vv b Z] w [] (fun v cs=>(∃r,v= .bool r∧(r=true↔a=b))∧cs=[]):=by
 refine bL func31 rfl ntmps31 rfl (Inv.start w) ?_;refine Z_2 ?_;refine ZO fun b2=>?_;refine ZO fun b3=>?_
 refine Z_6 ?_;refine dL (cn (vs:=a.s.cells (.slice Y.X.Ad a.s.d.length Y.X.cd) (.slice Y.X.Ar a.s.r.length Y.X.cr)) Zrf Zrf Zv0) (cI (o:=0) Zh rfl) rfl ?_;refine Z_1 ?_;refine dL (cn (vs:=b.s.cells (.slice Z.X.Ad b.s.d.length Z.X.cd) (.slice Z.X.Ar b.s.r.length Z.X.cr)) Zrf Zrf Zv0) (cI (o:=0) Zh rfl) rfl ?_;refine ZSe (fun w hi=>Ed a.s b.s Y.X.Ad Y.X.Ar Z.X.Ad Z.X.Ar Y.X.cd Y.X.cr Z.X.cd Z.X.cr w (h.s.Jz hi) (h2.s.Jz hi)) ?_;refine Z_3 ?_;refine fq (fun w hi=>lS (h.m.Jz hi)) (fun hrd13=>?_);refine hH (bZ rfl rfl) (lD rfl rfl rfl (dH rfl) hrd13) (fun w hi=>RdV.JQ (h.m.Jz hi)) rfl ?_;refine Z_2 ?_;refine fq (fun w hi=>lS (h2.m.Jz hi)) (fun hrd16=>?_);refine hH (bZ rfl rfl) (lD rfl rfl rfl (dH rfl) hrd16) (fun w hi=>RdV.JQ (h2.m.Jz hi)) rfl ?_;refine Zyy rfl rfl (qE rfl (dH rfl) (dH rfl) (nX ha.m hb.m)) ?_;refine Z_4 ?_;refine fq (fun w hi=>lS (h.o.Jz hi)) (fun hrd22=>?_);refine hH (bZ rfl rfl) (lD rfl rfl rfl (dH rfl) hrd22) (fun w hi=>RdV.JQ (h.o.Jz hi)) rfl ?_;refine Z_2 ?_;refine fq (fun w hi=>lS (h2.o.Jz hi)) (fun hrd25=>?_);refine hH (bZ rfl rfl) (lD rfl rfl rfl (dH rfl) hrd25) (fun w hi=>RdV.JQ (h2.o.Jz hi)) rfl ?_;refine Zyy rfl rfl (qE rfl (dH rfl) (dH rfl) (nX ha.o hb.o)) ?_;refine Z_4 ?_;refine fq (fun w hi=>lS (h.i.Jz hi)) (fun hrd31=>?_);refine hH (bZ rfl rfl) (lD rfl rfl rfl (dH rfl) hrd31) (fun w hi=>RdV.JQ (h.i.Jz hi)) rfl ?_;refine Z_2 ?_;refine fq (fun w hi=>lS (h2.i.Jz hi)) (fun hrd34=>?_);refine hH (bZ rfl rfl) (lD rfl rfl rfl (dH rfl) hrd34) (fun w hi=>RdV.JQ (h2.i.Jz hi)) rfl ?_;refine Zyy rfl rfl (qE rfl (dH rfl) (dH rfl) (nX ha.i hb.i)) ?_;refine Z_2 ?_;refine ZFb 19 ?_;refine ZD ?_;refine fq (fun w hi=>lS (h.k.Jz hi)) (fun hrd40=>?_);refine hH (bZ rfl rfl) (lD rfl rfl rfl (dH rfl) hrd40) (fun w hi=>RdV.JQ (h.k.Jz hi)) rfl ?_;refine ZFb 19 ?_;refine ZD ?_;refine fq (fun w hi=>lS (h2.k.Jz hi)) (fun hrd43=>?_);refine hH (bZ rfl rfl) (lD rfl rfl rfl (dH rfl) hrd43) (fun w hi=>RdV.JQ (h2.k.Jz hi)) rfl ?_;refine Zyy rfl rfl (qE rfl (dH rfl) (dH rfl) (nX ha.k hb.k)) ?_;refine Z_2 ?_;refine ZFb 20 ?_;refine ZD ?_;refine ZFb 20 ?_;refine Z_4 ?_;refine ZFb 21 ?_;refine ZD ?_;refine ZFb 21 ?_;refine Z_4 ?_;refine ZFb 22 ?_;refine ZD ?_;refine ZFb 22 ?_;refine Z_7 ?_;refine Zra ?_;refine⟨⟨_,rfl,?_⟩,rfl⟩;simp only[aB,beq_iff_eq,St.Ki];constructor
 ·rintro⟨⟨⟨⟨⟨⟨⟨q1,q2⟩,q3⟩,q4⟩,q5⟩,q6⟩,q7⟩,q8⟩;cases a;cases b;simp_all
 rintro rfl;simp
theorem EG(n:Nat)(hn:n≤4611686018427387904)(w:World):Ctr prog 75 [.int .i64 n] w [] (fun v cs=>v= .int .i64 (((n+63)/64:Nat):Int)∧cs=[]):=by
 refine bL func75 rfl ntmps75 rfl (Inv.start w) ?_;refine Z_8 ?_;refine Zy (cX Zv0 Zv0 Zl) ?_;refine Zy (dY Zv0 Zv0 Zl) ?_;refine Zy (jD (Zv rfl) (Zv rfl) Wq1 (show _=(((n+63)/64:Nat):Int)from by rw[IntWalk.i64_quo _ _ ⟨by omega,by omega,by omega⟩];omega)) ?_;refine Z_4 ?_;refine Zra ?_;exact df
end Go.Proofs.YtakodpimdalajaaGreatDoor
namespace Go.Ink
open Go.RowKit
def Bf:List Int:=[0,1,28,2,29,14,24,3,30,22,20,15,25,17,4,8,31,27,13,23,21,19,16,7,26,12,18,6,11,5,10,9]
def u7(b:Nat):Nat→Nat→Option Nat
 |_,0=>none
 |k,m+1=>bif b/2^k%2==1 then some k else u7 b (k+1) m
def ou(b:Nat):Option Nat:=u7 b 0 8
def tzAnd(x:Int):Int:=bits .and .u32 x (IntKind.u32.wrap (0 - x))
def tzMul(x:Int):Int:=IntKind.u32.wrap (tzAnd x*125613361)
def CP(x:Int):Int:=(tzMul x).fdiv (2^(min (Int.toNat 27) IntKind.u32.bits))
def tzSay(x:Nat):Bool:=x==0||match ou x with
 |some k=>decide (0≤CP x)&&decide (CP x<32)&&(Bf[(CP x).toNat]? ==some (k:Int))&&decide (k<8)
 |none=>false
theorem tz_all:(List.range 256).all tzSay=true:=by decide+kernel
theorem CO{x:Nat}(h0:0<x)(h:x<256):∃k j:Nat,ou x=some k∧k<8∧CP x=(j:Int)∧j<32∧Bf[j]? =some (k:Int):=by
 have h1:=bE.1 tz_all x (List.mem_range.2 h);have e:(x==0)=false:=by simp;omega
 unfold tzSay at h1;rw[e,Bool.false_or]at h1;cases hl:ou x with
 |none=>rw[hl]at h1;cases h1
 |some k=>
  rw[hl]at h1;simp only[aB,ak,beq_iff_eq]at h1;obtain⟨⟨⟨h2,h3⟩,h4⟩,h5⟩:=h1;exact⟨k,(CP x).toNat,rfl,h5,by omega,by omega,h4⟩
theorem Ha:ou 0=none:=by decide
def Hl(d:Dev):Option Nat:=ou (bits .and .u32 d.JH d.mask).toNat
def Dev.tick(d:Dev)(count:Int):Dev:=bif(d.timer==0)||decide (IntKind.u32.wrap count<d.timer)then d else{d with timer:=0,JH:=bits .or .u32 d.JH 1}
def told(s:St)(d:Dev):St:=match Hl d with
 |some k=>bif s.ie then s.JA ((16+k:Nat):Int) 0 else s
 |none=>s
structure IF where
 s:St
 place:Int
 runs:Bool
 u:Mmu
 d:Dev
def St.space(s:St):Sp:=⟨s.Jv,s.Jq,s.root.toNat⟩
def sx(n:Nat)(s:St)(U:Mmu)(d:Dev):IF:=
 let q:=cM n U s.space s.pc.toNat 1
 bif q.1.2.Jr !=0 then⟨s.next.JA q.1.2.Jr q.1.2.addr,0,false,q.2,d⟩else⟨s,q.1.1,true,q.2,d⟩
def dW(n:Nat)(s:St)(U:Mmu)(d:Dev):IF:=
 bif !s.right||s.halted then⟨s,0,false,U,d⟩else sx n (told s (d.tick s.count)) U (d.tick s.count)
def xI:List Int→Int
 |[]=>0
 |b::l=>b+256*xI l
def dR(b:List Int):Option ((Int×Int)×Nat):=
 match b with
 |[]=>none
 |op::l=>bif cy op==0 then none else bif decide ((l.length:Int)+1<cy op)then none else some ((op,xI (l.take ((cy op).toNat - 1))),(cy op).toNat)
def fg(n:Nat)(M:Mem)(p:Nat):Option ((Int×Int)×Nat):=
 bif decide (p/64<n)then dR (((M.data.drop (p/64*64)).take 64).drop (p%64))else none
def gl(op:Int):Bool:=(decide (32≤op)&&decide (op≤40))||(decide (64≤op)&&decide (op≤69))
def kD(op:Int)(r:Res)(JD was:Int):Bool:=bif gl op||r.Kn||r.device||r.s.halted||r.Jl.contains JD then false else(r.s.pc/64==was/64)
def eO(n:Nat)(JD:Nat):Nat→St→Nat→Mmu→Dev→St×Mmu×Dev
 |0,s,_,U,d=>(s,U,d)
 |k+1,s,p,U,d=>match fg n U.m p with
  |none=>(s.next.JA 1 0,U,d)
  |some ((op,nn),sz)=>
   let q:=vr n s op nn U d
   bif kD op q.1 JD s.pc then eO n JD k q.1.s ((p+sz)%4294967296) q.2.1 q.2.2 else(q.1.s,q.2.1,q.2.2)
def dQ(n:Nat)(s:St)(U:Mmu)(d:Dev):St×Mmu×Dev:=
 let b:=dW n s U d
 bif b.runs then eO n (b.place.toNat/64) 8 b.s b.place.toNat b.u b.d else(b.s,b.u,b.d)
def lr(n:Nat)(m:Int)(from_:Int):Nat→St×Mmu×Dev→St×Mmu×Dev
 |0,q=>q
 |k+1,q=>bif decide (0<m)&& !q.1.halted&&decide (IntKind.u64.wrap (q.1.count - from_)<m)then lr n m from_ k (dQ n q.1 q.2.1 q.2.2)else q
theorem xy(k:IntKind)(x y:Int):bits .or k x y=bits .or k y x:=by
 unfold bits;simp only[BitVec.or_comm]
theorem vc:∀{l:List Int},u8s l→0≤xI l∧xI l<((256^l.length:Nat):Int)
 |[],_=>by simp[xI]
 |b::l,h=>by
  obtain⟨h1,h2⟩:=vc (l:=l) (fun x hx=>h x (bC _ hx));have hb:=h b cJ;have e:((256^(b::l).length:Nat):Int)=256*((256^l.length:Nat):Int):=by
   rw[aj,Nat.pow_succ,Nat.mul_comm];exact Int.natCast_mul 256 _
  rw[e];unfold xI;omega
def SzIn(x:Int):Prop:=x=0∨x=1∨x=2∨x=5
theorem jc(op:Int):SzIn (cy op):=by
 unfold cy
 repeat (refine bM SzIn (Or.inr (Or.inr (Or.inl rfl))) ?_)
 refine bM SzIn (Or.inr (Or.inr (Or.inr rfl))) ?_;exact bM SzIn (Or.inl rfl) (Or.inr (Or.inl rfl))
theorem shl8_or{N b:Int}(h0:0≤N)(h1:N<16777216)(hb:0≤b∧b≤255):bits .or .u32 (IntKind.u32.wrap (N*2^(min (Int.toNat 8) IntKind.u32.bits))) b=b+256*N:=by
 have e:(N*2^(min (Int.toNat 8) IntKind.u32.bits):Int)=N*256:=rfl;rw[e,u32_wrap_id _ Wq1 Wq1,xy,show bits .or .u32 b (N*256)=b+N*256 from by apply u32_or8<;>omega];omega
end Go.Ink
namespace Go.Proofs.YtakodpimdalajaaGreatDoor
open Go.RowKit Go.Ink Go.Proofs.Tryz
attribute [local irreducible] OpY bP
def lx(w:World):Prop:=RdV w 1 (some ⟨0,0,none⟩) 32 32 (ints .u8 Bf)
theorem lx.old{w0 w:World}{cs:List bJ}(h:lx w0)(hi:Inv w0 [] cs w):lx w:=RdV.Jz h hi
theorem Gj{w0:World}{cs:List bJ}{j:Nat}{a:Int}(ht:lx w0)(h:Bf[j]? =some a):∀w,Inv w0 [] cs w→cells [(⟨0,0+j*1,none⟩,.int .u8 a)] w:=by
 have h5:=eH (w0:=w0) (cs:=cs) ht (cQ h);rw[Addr.add_lit]at h5;exact h5
theorem tz_ok(x k:Nat)(h0:0<x)(h:x<256)(hk:ou x=some k)(w:World)(ht:lx w):Ctr prog 121 [.int .u32 (x:Int)] w [] (fun v cs=>v= .int .i64 (k:Int)∧cs=[]):=by
 obtain⟨k',j,e1,e5,e2,e3,e4⟩:=CO h0 h;obtain rfl:k'=k:=aD (e1.symm.trans hk);refine bL func121 rfl ntmps121 rfl (Inv.start w) ?_;refine gE ?_;refine dw rfl ((beq_eq_false_iff_ne.2 Wq1)) ?_;refine Z_6 ?_;refine Zy (y_neg Zv0 rfl) ?_;refine ZA ?_;refine Zy (i4 Zv0 Zv0 rfl) ?_;refine Zy (j0 (Zv rfl) (Zv rfl) Wq1 (show _=(j:Int)from e2)) ?_;refine Zy (cV (j:=j) (sz:=1) (r:=0+j*1) rfl Zrf (Zv rfl) (Zv rfl) Wq4 Wq4 Wq1) ?_;refine dL (bO Zrf Zv0) (Gj ht e4) rfl ?_;refine Zy (bW rfl rfl Zv0 Zl) ?_;refine Z_4 ?_;refine Zra ?_;exact df
theorem BT(b x:Nat)(p m:Int)(hx:bits .and .u32 p m=(x:Int))(h256:x<256)(w:World)(h:(po b p m).ok w)(ht:lx w):
  Ctr prog 90 [.pointer (some ⟨b,0,none⟩)] w [] (fun v cs=>v= .tuple #[.int .i64 (((ou x).getD 0:Nat):Int),.bool (ou x).isSome]∧cs=[]):=by
 refine bL func90 rfl ntmps90 rfl (Inv.start w) ?_;refine Z_7 ?_;refine bR ⟨fun j=>List.elem j [],[]⟩ Zk ?_;refine gn ?_;refine ZFe 2 0 ?_;refine dm 3 rfl Zk Zk Zk Zk (bO Zrf (Zv rfl)) (cS (by assumption) rfl) rfl ?_;refine ZE 4 ?_;refine ZE 5 ?_;refine ZFe 6 1 ?_;refine dm 7 rfl Zk Zk Zk Zk (bO Zrf (Zv rfl)) (cS (by assumption) rfl) rfl ?_;refine cD 8 rfl Zk Zk Zk (nG Zv0 Zv0 hx) rfl ?_;refine ZE 9 ?_;refine dr ?_;refine Z_8 ?_;refine ZW ?_ ?_<;>intro hc2
 ·obtain rfl:x=0:=(by have:=jY hc2;omega);rw[Ha];refine Z_8 ?_;refine jh ?_;exact df
 have hx0:0<x:=(by have:=ne_of_beq_false hc2;omega);obtain⟨k,j,e1, -⟩:=CO hx0 h256;have HT:=tz_ok x k hx0 h256 e1;rw[e1];refine Z_5 ?_;refine ZSe (fun w hi=>HT w (ht.old hi)) ?_;refine Z_5 ?_;refine jh ?_;exact df
theorem due_ok(b:Nat)(t count:Int)(w:World)(hi:Inv w (bK [Bk b t]) [Bk b t] w):
  Ctr prog 120 [.pointer (some ⟨b,0,none⟩),.int .u64 count] w [Bk b t] (fun v cs=>v= .bool (!((t==0)||decide (IntKind.u32.wrap count<t)))∧cs=[Bk b (bif(t==0)||decide (IntKind.u32.wrap count<t)then t else 0)]):=by
 refine bL func120 rfl ntmps120 rfl hi ?_;refine p6 ?_;refine Zyn rfl rfl (bW rfl rfl (dH rfl) rfl) ?_;refine Z_8 ?_;refine ZW ?_ ?_<;>intro hc1
 ·rw[hc1];refine Z_7 ?_;refine Zrb ([row _ _ _]) ?_;exact df
 rw[hc1];refine Z_7 ?_;refine ZL ?_;refine Z_8 ?_;refine Zrb ([row _ _ _]) ?_;exact df
theorem lines0:pm [0]=1:=by decide
theorem tick_ok(D:pL)(bm:Nat)(X:lz)(d:Dev)(count:Int)(w:World)(hi:Inv w (bK (mV D bm X d)) (mV D bm X d) w):
  Ctr prog 89 [.pointer (some ⟨D.bs,0,none⟩),.int .u64 count] w (mV D bm X d) (fun v cs=>v= .tuple #[]∧cs=mV D bm X (d.tick count)):=by
 obtain⟨c,hc⟩:=Zgn (((d.timer==0)||decide (IntKind.u32.wrap count<d.timer)));have HD:=due_ok D.bti d.timer count;have HR:=fun A c w hi h=>rM D.bi d.JH d.mask A c [0] (fun x hx=>by simp at hx;omega) w hi h
 rw[hc]at HD;rw[lines0]at HR;refine bL func89 rfl ntmps89 rfl hi ?_;refine Z_7 ?_;refine ZcM ([Bk D.bti d.timer]) (fun w hi hin=>HD w hin) ?_;refine Z_2 ?_;refine ZW ?_ ?_<;>intro hc0
 ·obtain rfl:c=false:=(by cases c with|false=>rfl|true=>cases hc0);have ht:d.tick count={d with timer:=0,JH:=bits .or .u32 d.JH 1}:=(by unfold Dev.tick;rw[hc];rfl);rw[ht];refine Z_5 ?_;refine ku ?_;rintro _ _ ⟨b14,rfl,rfl⟩;refine ZcM ([po D.bi d.JH d.mask]) (fun w hi hin=>HR (some ⟨b14,0,none⟩) 1 w hin (fun w' hk=>hi.J8 Zi (show Has _ (slv 3 1 (some ⟨b14,0,none⟩) 1 1 (ints .i64 [0]))from Zh) hk)) ?_;refine Zn (bN (mV D bm X {d with timer:=0,JH:=bits .or .u32 d.JH 1}) Zj ?_);refine iF (cs':=[row _ _ _,row _ _ _,row _ _ _,row _ _ _,slv _ _ _ _ _ _,slv _ _ _ _ _ _,row _ _ _,slv _ _ _ _ _ _]) (.inr rfl) Zu rfl ?_;exact df
 obtain rfl:c=true:=(by cases c with|true=>rfl|false=>cases hc0);have ht:d.tick count=d:=(by unfold Dev.tick;rw[hc];rfl);rw[ht];refine Zc (bN (mV D bm X d) Zj ?_);refine iF (cs':=[row _ _ _,row _ _ _,row _ _ _,row _ _ _,slv _ _ _ _ _ _,slv _ _ _ _ _ _,row _ _ _,slv _ _ _ _ _ _]) (.inr rfl) Zu rfl ?_;exact df
theorem vl(op:Int)(w:World):Ctr prog 144 [.int .i64 op] w [] (fun v cs=>v= .bool (gl op)∧cs=[]):=by
 refine bL func144 rfl ntmps144 rfl (Inv.start w) ?_;refine lw ?_;refine Z_5 ?_;refine Zra ?_;exact df
theorem Hp(A:Option Addr)(c:Nat)(l:List Int)(x:Int)(w:World)(h:Rd w .i64 A l.length c l):Ctr prog 203 [.slice A l.length c,.int .i64 x] w [] (fun v cs=>(∃z,v= .int .i64 z∧decide (0≤z)=l.contains x)∧cs=[]):=by
 have hlm:l.length≤maxLen:=aV h.cap h.max;simp only[maxLen]at hlm;refine bL func203 rfl ntmps203 rfl (Inv.start w) ?_;refine gL ?_;refine cw (fun k:Nat=>[(0,.slice A l.length c),(1,.int .i64 x),(7,.int .i64 (l.length:Int)),(8,.int .i64 (k:Int))]) (fun _=>[]) (fun k=>k≤l.length∧∀j,j<k→l[j]? ≠some x) (fun k=>l.length - k) (0) ?_ ?_ ?_ ?_
 ·exact⟨au _,fun j hj=>by omega⟩
 ·exact Zwk
 ·exact Zu
 rintro k ⟨hk,hno⟩;refine Z_6 ?_;refine ZW ?_ ?_<;>intro hc2
 ·simp only[ak]at hc2;have hkl:k<l.length:=Wq1;obtain⟨ad,rfl⟩:=h.some_ Wq1;have hy:l[k]? =some (l[k]'hkl):=ai hkl;obtain⟨y,hyy⟩:=Zgn (l[k]'hkl);rw[hyy]at hy;refine p6 ?_;refine Zy (cU (j:=k) rfl Zrf (Zv rfl) (Zv rfl) Wq4 Wq4) ?_;refine dL (bO Zrf Zv0) (eH h (cQ hy)) rfl ?_;refine Z_3 ?_;refine ZW ?_ ?_<;>intro hc4
  ·have e:=jY hc4;refine gE ?_;refine Zra ?_;exact⟨⟨_,rfl,by rw[ay (show(0:Int)≤(k:Int) by omega),List.contains_eq_mem,ay (e▸aI hy)]⟩,rfl⟩
  refine Z_4 ?_;refine Wq8 ?_;refine dM (k+1) ?_ ?_ ?_
  ·exact⟨⟨by omega,fun j hj=>by rcases Nat.lt_or_ge j k with h1|h1;exact hno j h1;obtain rfl:j=k:=Wq1;rw[hy];intro e;exact ne_of_beq_false hc4 (aD e).symm⟩,by omega⟩
  ·exact Zwk
  exact Zu
 simp only[ah]at hc2;have hnm:l.contains x=false:=(by rw[List.contains_eq_mem,ah];intro hm;obtain⟨j,hj,e⟩:=List.getElem_of_mem hm;exact hno j Wq1 (by rw[ai hj,e]));refine fF ?_;refine Zra ?_;exact⟨⟨_,rfl,by rw[hnm];rfl⟩,rfl⟩
theorem nv(A:Option Addr)(c:Nat)(l:List Int)(x:Int)(w:World)(h:Rd w .i64 A l.length c l):Ctr prog 145 [.slice A l.length c,.int .i64 x] w [] (fun v cs=>v= .bool (l.contains x)∧cs=[]):=by
 refine bL func145 rfl ntmps145 rfl (Inv.start w) ?_;refine Z_9 ?_;refine ZS (fun w hi=>Hp A c l x w (RdV.Jz h hi)) ?_;rintro _ _ ⟨_,⟨⟨z,rfl,hz⟩,rfl⟩,rfl⟩;refine Z_5 ?_;refine Zra ?_;exact⟨by rw[←hz],rfl⟩
end Go.Proofs.YtakodpimdalajaaGreatDoor
namespace Go.Ink
open Go.RowKit
abbrev insV(o:Option ((Int×Int)×Nat)):List Value:=[.int .i64 ((o.map (·.1.1)).getD 0),.int .u32 ((o.map (·.1.2)).getD 0)]
abbrev insN(o:Option ((Int×Int)×Nat)):Nat:=(o.map (·.2)).getD 0
theorem vu{op:Int}(l:List Int)(h:cy op=0):dR (op::l)=none:=by
 have e:(cy op==0)=true:=by rw[h];rfl
 show(bif cy op==0 then none else _)=none;rw[e]
 rfl
theorem sT{op:Int}{l:List Int}(h:(l.length:Int)+1<cy op):dR (op::l)=none:=by
 unfold dR;simp only[ay h,ac,Bool.cond_self]
theorem oO{op:Int}{l:List Int}{z:Nat}(h0:cy op=((z+1:Nat):Int))(h:z≤l.length):dR (op::l)=some ((op,xI (l.take z)),z+1):=by
 have e1:(cy op==0)=false:=by rw[h0,beq_eq_false_iff_ne];omega
 have e2:decide ((l.length:Int)+1<cy op)=false:=az (by rw[h0];omega)
 show(bif cy op==0 then none else bif decide ((l.length:Int)+1<cy op)then none else some ((op,xI (l.take ((cy op).toNat - 1))),(cy op).toNat))=_;rw[e1,aa,e2,aa,h0]
 rfl
theorem Eb{l:List Int}{z k:Nat}{x:Int}(hk:k<z)(hx:l[k]? =some x):xI ((l.take z).drop k)=x+256*xI ((l.take z).drop (k+1)):=by
 have hx':(l.take z)[k]? =some x:=by rw[List.getElem?_take,if_pos hk];exact hx
 obtain⟨hlt,he⟩:=ar.1 hx';rw[List.drop_eq_getElem_cons hlt,he]
 rfl
end Go.Ink
namespace Go.Proofs.YtakodpimdalajaaGreatDoor
open Go.RowKit Go.Ink Go.Proofs.Tryz
attribute [local irreducible] OpY bP
theorem xi(A:Option Addr)(c:Nat)(b:List Int)(hb:u8s b)(w:World)(h:Rd w .u8 A b.length c b):
  Ctr prog 138 [.slice A b.length c] w [] (fun v cs=>(∃y,v= .tuple #[.agg (insV (dR b)).toArray,.int .i64 (insN (dR b):Int),.int .i64 y]∧(y==0)=(dR b).isSome)∧cs=[]):=by
 have hlm:b.length≤maxLen:=aV h.cap h.max;simp only[maxLen]at hlm;cases b with
 |nil=>
  refine bL func138 rfl ntmps138 rfl (Inv.start w) ?_;refine Z_2 ?_;refine ZN fun b2=>?_;refine gE ?_;refine bU rfl (rfl) ?_;refine Z_3 ?_;refine ZM ?_;refine Z_6 ?_;refine Bu (cs':=[]) (.inl rfl) Zu rfl rfl rfl rfl Zh Zrf Zrf ?_;exact⟨⟨10,rfl,rfl⟩,rfl⟩
 |cons op l=>
  have hop:=hb op cJ;have hl:u8s l:=fun x hx=>hb x (bC _ hx)
  have hlen:(op::l).length=l.length+1:=rfl;obtain⟨ad,rfl⟩:=h.some_ (by rw[hlen];omega);have hz5:cy op=0∨cy op=1∨cy op=2∨cy op=5:=jc op;have HS:=uE op;have hn0:0≤cy op:=by omega
  obtain⟨z0,hz0⟩:∃z:Nat,cy op=z:=aq hn0;have E0:=vu (op:=op) l;have E1:=sT (op:=op) (l:=l);have E2:=fun z h1 h2=>oO (op:=op) (l:=l) (z:=z) h1 h2
  rw[hz0]at hz5 HS E0 E1 E2;have hz6:z0≤5:=by omega
  refine bL func138 rfl ntmps138 rfl (Inv.start w) ?_;refine Z_2 ?_;refine ZN fun b2=>?_;refine gE ?_;refine dw rfl ((beq_eq_false_iff_ne.2 (by rw[hlen];omega))) ?_;refine Z_5 ?_;refine Zy (cU (j:=0) rfl Zrf (Zv rfl) (Zv rfl) Wq4 Wq4) ?_;refine dL (bO Zrf Zv0) (eH h (cQ (l:=op::l) (j:=0) rfl)) rfl ?_;refine Zy (bW rfl rfl Zv0 Zl) ?_;refine ZA ?_;refine ZN fun b5=>?_
  refine ZM ?_;refine Z_6 ?_;refine ZSe (fun w hi=>HS w) ?_;refine gE ?_;refine ZW ?_ ?_<;>intro hc5
  ·rw[E0 (jY hc5)];refine Z_3 ?_;refine ZM ?_;refine Z_7 ?_;refine Bu (cs':=[]) (.inl rfl) Zu rfl rfl rfl rfl Zh Zrf Zrf ?_;exact⟨⟨12,rfl,rfl⟩,rfl⟩
  have hz1:1≤z0:=(by have:=ne_of_beq_false hc5;omega);refine Z_9 ?_;refine ZW ?_ ?_<;>intro hc7
  ·simp only[ak]at hc7;rw[E1 (by rw[hlen]at hc7;omega)];refine Z_3 ?_;refine ZM ?_;refine Z_7 ?_;refine Bu (cs':=[]) (.inl rfl) Zu rfl rfl rfl rfl Zh Zrf Zrf ?_;exact⟨⟨10,rfl,rfl⟩,rfl⟩
  simp only[ah]at hc7;obtain⟨z,rfl⟩:∃z,z0=z+1:=⟨z0 - 1,by omega⟩;have hzl:z≤l.length:=(by rw[hlen]at hc7;omega);rw[E2 z rfl hzl];have htl:(l.take z).length=z:=(by rw[aC];omega);have hrng:∀k,0≤xI ((l.take z).drop k)∧xI ((l.take z).drop k)<((256^(z - k):Nat):Int):=fun k=>(by have h1:=vc (l:=(l.take z).drop k) (fun x hx=>hl x (List.mem_of_mem_take (List.mem_of_mem_drop hx)));rwa[bn,htl]at h1)
  obtain⟨N,hN⟩:∃N:Nat→Int,(fun k=>xI ((l.take z).drop k))=N:=⟨_,rfl⟩;have hN0:N 0=xI (l.take z):=(by rw[←hN];rfl);have hNz:N z=0:=(by rw[←hN];show xI ((l.take z).drop z)=0;rw[List.drop_of_length_le Wq1];rfl);have hNs:∀k x,k<z→l[k]? =some x→N k=x+256*N (k+1):=(fun k x h1 h2=>by rw[←hN];exact Eb h1 h2);have hNr:∀k,0≤N k∧N k<((256^(z - k):Nat):Int):=(fun k=>by rw[←hN];exact hrng k);rw[←hN0];refine Z_6 ?_;refine jF ([row b2 [.int .i64 0,.int .u32 0] 24,row b5 [.int .i64 op,.int .u32 0] 24]) Zj ?_;rw[show row b5 [Value.int .i64 op,Value.int .u32 0] 24=row b5 [Value.int .i64 op,Value.int .u32 (N z)] 24 from by rw[hNz]];refine ZA ?_;refine Zy (dY (Zv rfl) (Zv rfl) (show _=(z:Int)from by rw[IntWalk.i64_in _ ⟨by omega,by omega⟩];omega)) ?_;refine Z_4 ?_;refine cw (fun k:Nat=>[(0,.slice (some ad) (op::l).length c),(2,.pointer (some ⟨b2,0,none⟩)),(5,.pointer (some ⟨b5,0,none⟩)),(6,.int .i64 ((z+1:Nat):Int)),(7,.int .i64 (k:Int))]) (fun k=>[row b2 [.int .i64 0,.int .u32 0] 24,row b5 [.int .i64 op,.int .u32 (N k)] 24]) (fun k=>k≤z) (fun k=>k) (z) ?_ ?_ ?_ ?_
  ·exact aN _
  ·exact Zwk
  ·exact Zu
  rintro k hk;refine Z_7 ?_;refine ZW ?_ ?_<;>intro hc10
  ·simp only[ak]at hc10;obtain⟨k,rfl⟩:∃m,k=m+1:=⟨k - 1,by omega⟩;have hx:l[k]? =some (l[k]'(by omega)):=ai Wq1;have hxb:=hl _ (List.getElem_mem (show k<l.length by omega));obtain⟨x,hxx⟩:=Zgn (l[k]'(by omega));rw[hxx]at hx hxb;have hst:=hNs k x Wq1 hx;have hr:=hNr (k+1);have hp:(256^(z - (k+1)):Nat)≤256^3:=Nat.pow_le_pow_right Wq5 Wq1;have hp2:((256^(z - (k+1)):Nat):Int)≤16777216:=(by have e:(256^3:Nat)=16777216:=Wq5;omega);have hor:=shl8_or hr.1 Wq1 hxb;refine Z_4 ?_;refine bR ⟨fun j=>List.elem j [10],[]⟩ Zk ?_;refine ZFe 0 1 ?_;refine ZG 1 ?_;refine cD 2 rfl Zk Zk Zk (ux (Zv rfl) (Zv rfl) Wq1 rfl) rfl ?_;refine ZE 3 ?_;refine ZE 4 ?_;refine cD 5 rfl Zk Zk Zk (cU (j:=k+1) rfl Zrf (Zv rfl) (Zv rfl) Wq4 Wq4) rfl ?_;refine dm 6 rfl Zk Zk Zk Zk (bO Zrf Zv0) (eH h (cQ (l:=op::l) (j:=k+1) hx)) rfl ?_;refine cD 7 rfl Zk Zk Zk (bW rfl rfl (Zv rfl) (by first|exact IntWalk.u32_in _ ⟨by omega,by omega⟩|exact rfl)) rfl ?_;refine cD 8 rfl Zk Zk Zk (AN (Zv rfl) (Zv rfl) (show _=N k from by rw[hst];exact hor)) rfl ?_;refine ZFe 9 1 ?_;refine ce 10 Zk ?_;refine ZQ ?_;refine dr ?_;refine Z_4 ?_;refine Zy (dY (Zv rfl) (Zv rfl) (show _=(k:Int)from by rw[IntWalk.i64_in _ ⟨by omega,by omega⟩];omega)) ?_;refine Z_2 ?_;refine dM (k) ?_ ?_ ?_
   ·exact⟨show k≤z by omega,show k<k+1 by omega⟩
   ·exact Zwk
   exact Zu
  simp only[ah]at hc10;obtain rfl:k=0:=Wq1;refine Z_9 ?_;refine ZM ?_;refine Z_5 ?_;refine Bu (cs':=[]) (.inl rfl) Zu rfl rfl rfl rfl Zh Zrf Zrf ?_;exact⟨⟨0,rfl,rfl⟩,rfl⟩
end Go.Proofs.YtakodpimdalajaaGreatDoor
namespace Go.Ink
open Go.RowKit
theorem B6{n:Nat}{M:Mem}{p:Nat}(h:n≤p/64):fg n M p=none:=by
 unfold fg;rw[az Wq1]
 rfl
theorem B7{n:Nat}{M:Mem}{p:Nat}(h:p/64<n):fg n M p=dR (((M.data.drop (p/64*64)).take 64).drop (p%64)):=by
 unfold fg;rw[ay h]
 rfl
theorem Cf{w:World}{b j:Nat}{X:List Int}(h:Rd w .u8 (some ⟨b,0,none⟩) 64 64 X)(hj:j<64)(hX:X.length=64):Rd w .u8 (some ⟨b,j,none⟩) (64 - j) (64 - j) (X.drop j):=by
 have h5:=RdV.cut h (lo:=j) (hi:=64) Wq1 (aN _);rw[if_neg Wq1,Option.map_some,Addr.add_lit,bl,Nat.mul_one]at h5;have e:(ints .u8 X).take 64=ints .u8 X:=List.take_of_length_le (by simp[ints,hX]);rw[e]at h5;have e2:(ints .u8 X).drop j=ints .u8 (X.drop j):=by simp[ints]
 rwa[e2]at h5
abbrev oP(b:IF)(X:jq):List Value:=b.s.cells (.slice X.Ad b.s.d.length X.cd) (.slice X.Ar b.s.r.length X.cr)++[.int .u32 b.place,.bool b.runs]
end Go.Ink
namespace Go.Proofs.YtakodpimdalajaaGreatDoor
open Go.RowKit Go.Ink Go.Proofs.Tryz
attribute [local irreducible] OpY bP
theorem Bt(L:fa)(M:Mem)(p:Nat)(hp:L.n≤p)(w:World)(h:(ek L M).ok w):Ctr prog 94 [.pointer (some ⟨L.bm,0,none⟩),.int .i64 p] w [] (fun v cs=>v= .tuple #[.slice none 0 0,.bool false]∧cs=[]):=by
 obtain⟨n1,n64,hdl,hdb,htl⟩:=ls h;obtain⟨k0,hr0,h1,h2,h3,h4⟩:=mZ h;refine bL func94 rfl ntmps94 rfl (Inv.start w) ?_;refine fF ?_;rw[az (show¬(p:Int)<0 by omega)];refine Z_5 ?_;refine hH (cq rfl rfl) (bO Zrf (dH rfl)) (cS (by assumption) rfl) rfl ?_;refine iA (cq rfl rfl) rfl (eW rfl (fun _ _=>rfl) (fun w hi=>qv L.bt L.bp L.o L.bf L.bg L.n w (bJ.old h2 hi))) rfl ?_;rintro _ _ ⟨_,⟨rfl,rfl⟩,rfl⟩;refine Z_4 ?_;refine bU rfl ((by rw[ay (show(L.n:Int)≤p by omega)];rfl)) ?_;refine Z_8 ?_;refine jh ?_;exact df
theorem z5(bu bb:Nat)(L:fa)(M:Mem)(p:Nat)(hp:p≤4294967295)(w:World)(hu:(FS bu L.bm bb).ok w)(h:(ek L M).ok w):
  Ctr prog 98 [.pointer (some ⟨bu,0,none⟩),.int .u32 (p:Int)] w [] (fun v cs=>v= .tuple #[.agg (insV (fg L.n M p)).toArray,.int .i64 (insN (fg L.n M p):Int),.bool (fg L.n M p).isSome]∧cs=[]):=by
 obtain⟨n1,n64,hdl,hdb,htl⟩:=ls h;have hq:IntKind.u32.wrap ((p:Int).tdiv 64)=((p/64:Nat):Int):=by rw[bz Wq1,u32_wrap_id _ Wq1 Wq1];omega
 have hrm:(p:Int).tmod 64=((p%64:Nat):Int):=by rw[aF Wq1];omega
 by_cases hpn:p/64<L.n
 ·have HP:=uK L M (p/64) hpn;rw[B7 hpn];have hXl:((M.data.drop (p/64*64)).take 64).length=64:=by rw[aC,bn];omega
  have hXb:u8s ((M.data.drop (p/64*64)).take 64):=fun x hx=>hdb x (List.mem_of_mem_drop (List.mem_of_mem_take hx))
  obtain⟨X,hX⟩:=Zgn ((M.data.drop (p/64*64)).take 64);rw[hX]at HP hXl hXb⊢;have hbl:(X.drop (p%64)).length=64 - p%64:=by rw[bn,hXl]
  have HD:=fun A c w h=>xi A c (X.drop (p%64)) (fun x hx=>hXb x (List.mem_of_mem_drop hx)) w h
  rw[hbl]at HD;obtain⟨o,ho⟩:=Zgn (dR (X.drop (p%64)));rw[ho]at HD⊢;refine bL func98 rfl ntmps98 rfl (Inv.start w) ?_;refine Z_2 ?_;refine ZN fun b4=>?_;refine fF ?_;refine gx ?_;refine Z_5 ?_;refine ZSe (fun w hi=>kQ bu L.bm bb w (bJ.old hu hi)) ?_;refine ZA ?_;refine Zy (jD (Zv rfl) (Zv rfl) Wq1 hq) ?_;refine Zy (bW rfl rfl Zv0 Zl) ?_;refine ZS (fun w hi=>HP w (bJ.old h hi)) ?_;rintro _ _ ⟨_,⟨bq,rfl,rfl⟩,rfl⟩;refine gL ?_;refine gx ?_;refine Z_6 ?_;refine Zy (gy (Zv rfl) (Zv rfl) Wq1 hrm) ?_;refine Zy (kO (sz:=1) (lo:=p%64) (hi:=64) (r:=p%64) rfl Zrf (Zv rfl) (.inr ⟨_,_,rfl,(Zv rfl)⟩) (.inl ⟨rfl,rfl⟩) Wq1 Wq1 Wq1 Wq1) ?_;refine ZS (fun w hi=>HD (some ⟨bq,p%64,none⟩) (64 - p%64) w (Cf (hi.rd (show Has _ (sl .u8 5 (some ⟨bq,0,none⟩) 64 64 X)from Zh)) Wq1 hXl)) ?_;rintro _ _ ⟨_,⟨⟨y,rfl,hy⟩,rfl⟩,rfl⟩;refine Z_4 ?_;refine ZN fun b9=>?_
  refine ZM ?_;refine Z_9 ?_;refine Zy (CA (Zv rfl) (Zv rfl) hy) ?_;refine ZM ?_;refine Z_5 ?_;refine Bu (cs':=[]) (.inl rfl) Zu rfl rfl rfl rfl Zh Zrf Zrf ?_;exact df
 have HP:=Bt L M (p/64) Wq1;rw[B6 Wq1];refine bL func98 rfl ntmps98 rfl (Inv.start w) ?_;refine Z_2 ?_;refine ZN fun b4=>?_;refine fF ?_;refine gx ?_;refine Z_5 ?_;refine ZSe (fun w hi=>kQ bu L.bm bb w (bJ.old hu hi)) ?_;refine ZA ?_;refine Zy (jD (Zv rfl) (Zv rfl) Wq1 hq) ?_;refine Zy (bW rfl rfl Zv0 Zl) ?_;refine ZSe (fun w hi=>HP w (bJ.old h hi)) ?_;refine gL ?_;refine bU rfl (rfl) ?_;refine Z_3 ?_;refine ZM ?_;refine Z_6 ?_;refine Bu (cs':=[]) (.inl rfl) Zu rfl rfl rfl rfl Zh Zrf Zrf ?_;exact df
theorem DP(op nn:Int)(r:Res)(X:jq)(Ap:Option Addr)(cp:Nat)(JD was:Int)(hpc:u32 r.s.pc)(hw:u32 was)(w:World)(h:Rd w .i64 Ap r.Jl.length cp r.Jl):
  Ctr prog 100 [.agg #[.int .i64 op,.int .u32 nn],.agg (kW r X Ap cp).toArray,.int .i64 JD,.int .u32 was] w [] (fun v cs=>v= .bool (kD op r JD was)∧cs=[]):=by
 have HC:=nv Ap cp r.Jl JD;have hq:∀x:Int,u32 x→IntKind.u32.wrap (x.tdiv 64)=x/64:=fun x hx=>by obtain⟨h1,h2⟩:=hx;rw[bz h1,u32_wrap_id _ Wq1 Wq1]
 refine bL func100 rfl ntmps100 rfl (Inv.start w) ?_;refine Z_2 ?_;refine ZO fun b4=>?_;refine ZO fun b5=>?_
 refine Z_8 ?_;refine ZSe (fun w hi=>vl op w) ?_;refine vz ?_;refine dE (cq rfl rfl) (.cons (dH rfl) (.cons (dH rfl) .nil)) (fun _ _=>rfl) (fun hg w hi=>HC w (RdV.Jz h hi)) rfl ?_;refine Z_3 ?_;refine ZW ?_ ?_<;>intro hc1
 ·refine Z_7 ?_;refine Zra ?_;exact⟨by unfold kD;rw[hc1];rfl,rfl⟩
 refine Z_7 ?_;refine Zy (jD (Zv rfl) (Zv rfl) Wq1 (hq _ hpc)) ?_;refine ZA ?_;refine Zy (jD (Zv rfl) (Zv rfl) Wq1 (hq _ hw)) ?_;refine Z_5 ?_;refine Zra ?_;exact⟨by unfold kD;rw[hc1];rfl,rfl⟩
end Go.Proofs.YtakodpimdalajaaGreatDoor
namespace Go.Ink
open Go.RowKit
section
variable {C:Cx} {fr:Fr} {d:Option Nat} {T:TypeId} {x:Operand} {ty:TypeId} {pos:String} {af:Array Edge} {gd:Option (Nat×Bool)} {g:Bool}
theorem FX{i:Nat}{fs:Array Field}{f:Field}{vs:List Value}{v:Value}(hT:C.P.underlying T=some (.struct fs))(hf:fs[i]? =some f)(he:∀w,(isAgg f.type).run C.P w= .ok false w)(hx:Ev fr g x (.agg vs.toArray))(hv:vs[f.offset]? =some v):
  OpY C ⟨d,.field T x i,ty,pos,af,gd⟩ fr g Any v:=fun a w hfr _ hg=>by
 have h1:=hx.eval hfr hg;have hr:(Instr.field T (.agg vs.toArray) i).run C.P w= .ok v w:=by
  simp[Instr.field,run_underlying hT,hf,asAgg,part,he,hv]
 simp[execOp,h1,hr]
end
structure mA(L:fa)(k:yT):Prop where
 pl:dI k.B k.ow k.pr
 fr:k.fr.length=L.n
 gd:k.gd.length=L.n
 JD:∀p,p<L.n→k.fr[p]? =some (-1)∨∃f:Nat,k.fr[p]? =some (f:Int)∧16≤f∧f<256∧k.ow[f]? =some (L.o:Int)
 inj:∀p q f:Nat,k.fr[p]? =some (f:Int)→k.fr[q]? =some (f:Int)→p=q
 held:∀f:Nat,f<256→(L.oth f=false∧k.ow[f]? =some (-1))∨(L.oth f=false∧k.ow[f]? =some (L.o:Int)∧∃p:Nat,k.fr[p]? =some (f:Int))∨(L.oth f=true∧k.ow[f]? =L.gw[f]? ∧∀j,j<64→k.B[f*64+j]? =L.gB[f*64+j]?)
 prs:k.pr=L.gp
section
variable {L:fa} {M:Mem} {k:yT}
theorem eo.tab(h:eo L M k):mA L k:=⟨h.pl,h.fr,h.gd,fun p hp=>by
 rcases h.JD p hp with h1|⟨f,h1,h2,h3,h4, -⟩
 ·exact .inl h1.1
 exact .inr ⟨f,h1,h2,h3,h4⟩,h.inj,h.held,h.prs⟩
theorem mA.unmap(h:mA L k){p f:Nat}(hf:k.fr[p]? =some (f:Int)):(16≤f∧f<256∧k.ow[f]? =some (L.o:Int))∧mA L {k with ow:=k.ow.set f (-1),fr:=k.fr.set p (-1),gd:=k.gd.set p false}:=by
 have hpl:p<L.n:=by have:=(ar.1 hf).1;rw[h.fr]at this;exact this
 have hr:16≤f∧f<256∧k.ow[f]? =some (L.o:Int):=by
  rcases h.JD p hpl with h1|⟨g,h1,h2⟩
  ·rw[hf]at h1;have:=aD h1;omega
  rw[hf]at h1;obtain rfl:g=f:=by have:=aD h1;omega
  exact h2
 obtain⟨h16,h256,how⟩:=hr;have hwl:=h.pl.ow;have hfl:=h.fr;refine⟨⟨h16,h256,how⟩,⟨h.pl.b,by rw[aG];exact h.pl.ow,h.pl.pr⟩,by show(k.fr.set _ _).length=_;rw[aG];exact h.fr,by show(k.gd.set _ _).length=_;rw[aG];exact h.gd,fun q hq=>?_,fun a b g ha hb=>?_,fun g hg=>?_,h.prs⟩
 ·show(k.fr.set p (-1))[q]? =some (-1)∨∃g:Nat,(k.fr.set p (-1))[q]? =some (g:Int)∧16≤g∧g<256∧(k.ow.set f (-1))[g]? =some (L.o:Int);by_cases hqp:q=p
  ·subst hqp;left;rw[List.getElem?_set_self Wq1]
  rw[bo Wq1];rcases h.JD q hq with h1|⟨g,h1,h2,h3,h4⟩
  ·exact .inl h1
  have hgf:f≠g:=by rintro rfl;exact hqp (h.inj q p f h1 hf)
  exact .inr ⟨g,h1,h2,h3,by rw[bo hgf];exact h4⟩
 ·change (k.fr.set p (-1))[a]? =_ at ha
  change (k.fr.set p (-1))[b]? =_ at hb
  have no:∀c:Nat,(k.fr.set p (-1))[c]? =some (g:Int)→p≠c:=by
   rintro c hc rfl;rw[List.getElem?_set_self Wq1]at hc;have:=aD hc;omega
  rw[bo (no a ha)]at ha;rw[bo (no b hb)]at hb;exact h.inj a b g ha hb
 show(_∧(k.ow.set f (-1))[g]? =some (-1))∨(_∧(k.ow.set f (-1))[g]? =some (L.o:Int)∧∃q:Nat,(k.fr.set p (-1))[q]? =some (g:Int))∨(_∧(k.ow.set f (-1))[g]? =_∧_);by_cases hgf:f=g
 ·subst hgf;left;refine⟨?_,by rw[List.getElem?_set_self Wq1]⟩;rcases h.held f hg with h1|h1|⟨h1,h2, -⟩
  ·exact h1.1
  ·exact h1.1
  rw[fa.oth,←h2,how]at h1;simp at h1
 rw[bo hgf];rcases h.held g hg with h1|⟨h1,h2,q,hq⟩|h1
 ·exact .inl h1
 ·refine .inr (.inl ⟨h1,h2,q,?_⟩);have:p≠q:=by
   rintro rfl;rw[hf]at hq;have:=aD hq;omega
  rw[bo this];exact hq
 exact .inr (.inr h1)
theorem mA.none(h:mA L k)(hall:∀p:Nat,p<L.n→k.fr[p]? =some (-1))(hl:L.gw.length=256)(hno:∀x,x∈L.gw→x≠(L.o:Int)):k.ow=L.gw∧∀f,f<256→L.oth f=true→∀j,j<64→k.B[f*64+j]? =L.gB[f*64+j]? :=by
 have hfr:∀(p f:Nat),k.fr[p]? ≠some (f:Int):=fun p f hp=>by
  have hpl:=(ar.1 hp).1;rw[h.fr]at hpl;rw[hall p hpl]at hp;have:=aD hp;omega
 refine⟨List.ext_getElem? fun f=>?_,fun f hf ho=>?_⟩
 ·by_cases hf:f<256
  ·rcases h.held f hf with⟨h1,h2⟩|⟨-, -,q,hq⟩|⟨-,h2, -⟩
   ·have hx:=ai (l:=L.gw) (i:=f) Wq1;have hn:=hno _ (List.getElem_mem (l:=L.gw) (n:=f) Wq1);rw[fa.oth,hx]at h1;rw[h2,hx];by_cases e:L.gw[f]= -1
    ·rw[e]
    simp[e,hn]at h1
   ·exact absurd hq (hfr q f)
   exact h2
  rw[bH (by rw[h.pl.ow];omega),bH Wq1]
 rcases h.held f hf with⟨h1, -⟩|⟨h1, -⟩|⟨-, -,h3⟩
 ·rw[h1]at ho;cases ho
 ·rw[h1]at ho;cases ho
 exact h3
end
def vC(fr:List Int)(k:Nat):List Nat:=(List.range k).filter (fun p=> !(fr[p]? ==some (-1)))
def iv(fr:List Int)(k:Nat):List Int:=(vC fr k).map fun p:Nat=>(p:Int)
theorem BM(fr:List Int)(k:Nat):iv fr (k+1)=iv fr k++(bif fr[k]? ==some (-1)then[]else[(k:Int)]):=by
 unfold iv vC;rw[List.range_succ,List.filter_append,List.map_append];congr 1;cases h:(fr[k]? ==some (-1))<;>simp[h]
theorem zE(fr:List Int)(k:Nat):(iv fr k).length≤k:=by
 unfold iv vC;rw[List.length_map];exact aV (List.length_filter_le _ _) cJ
theorem BN(fr:List Int)(k:Nat):(vC fr k).Nodup:=List.filter_sublist.nodup List.nodup_range
theorem zF{fr:List Int}{k p:Nat}:p∈vC fr k↔p<k∧fr[p]? ≠some (-1):=by
 unfold vC;rw[List.mem_filter,List.mem_range];simp
theorem yD{ow:List Int}{o:Int}(h:∀x,x∈ow→x≠o)(k:Nat):fx ow o k=[]:=by
 unfold fx;rw[List.map_eq_nil_iff,List.filter_eq_nil_iff];intro f _ hf;exact h o (aI (eq_of_beq hf)) rfl
structure ki(L:fa)(k0 k:yT)(j:Nat):Prop where
 rep:mA L k
 fr:∀p:Nat,k.fr[p]? =if p∈(vC k0.fr L.n).take j then some (-1)else k0.fr[p]?
theorem ki.none{L:fa}{k:yT}(h:mA L k):ki L k k 0:=⟨h,fun p=>by simp⟩
theorem ki.at_{L:fa}{k0 k:yT}{j p:Nat}(h:ki L k0 k j)(h0:mA L k0)(hp:(vC k0.fr L.n)[j]? =some p):p<L.n∧∃f:Nat,k.fr[p]? =some (f:Int)∧16≤f∧f<256∧k.ow[f]? =some (L.o:Int)∧ki L k0 {k with ow:=k.ow.set f (-1),fr:=k.fr.set p (-1),gd:=k.gd.set p false} (j+1):=by
 have hm:=zF.1 (aI hp);have hjl:=(ar.1 hp).1;have hnt:p∉(vC k0.fr L.n).take j:=fun hc=>by
  obtain⟨i,hi⟩:=List.mem_iff_getElem?.1 hc;rw[List.getElem?_take]at hi;split at hi
  ·rename_i hij
   have e1:=ar.1 hi;have e2:=ar.1 hp;have:=(List.getElem_inj (BN k0.fr L.n)).1 (e1.2.trans e2.2.symm);omega
  cases hi
 have e:=h.fr p;rw[if_neg hnt]at e;rcases h0.JD p hm.1 with h1|⟨f,h1, -⟩
 ·exact absurd h1 hm.2
 rw[h1]at e;obtain⟨⟨a1,a2,a3⟩,hu⟩:=h.rep.unmap e;refine⟨hm.1,f,e,a1,a2,a3,hu,fun q=>?_⟩;show(k.fr.set p (-1))[q]? =_;rw[List.take_add_one,hp];by_cases hqp:p=q
 ·subst hqp;rw[List.getElem?_set_self (by have:=h.rep.fr;omega),if_pos cJ]
 rw[bo hqp,h.fr q];have:(q∈List.take j (vC k0.fr L.n)++(some p).toList)=(q∈List.take j (vC k0.fr L.n)):=by simp[Ne.symm hqp]
 simp only[this]
theorem ki.all{L:fa}{k0 k:yT}(h:ki L k0 k (vC k0.fr L.n).length)(h0:mA L k0):∀p:Nat,p<L.n→k.fr[p]? =some (-1):=fun p hp=>by
 have e:=h.fr p;rw[bA]at e;rw[e];split
 ·rfl
 rename_i hn
 rw[zF]at hn;exact Classical.byContradiction fun hc=>hn ⟨hp,hc⟩
def pz(ow:List Int)(k:Nat):Nat:=((List.range' 16 (k - 16)).filter (fun f=>ow[f]? ==some (-1))).length
theorem B5(ow:List Int){k:Nat}(h:16≤k):pz ow (k+1)=pz ow k+(bif ow[k]? ==some (-1)then 1 else 0):=by
 unfold pz;rw[show k+1 - 16=(k - 16)+1 by omega,List.range'_concat,List.filter_append,ae,show 16+1*(k - 16)=k by omega];congr 1;cases hx:(ow[k]? ==some (-1))<;>simp[hx]
theorem H4(ow:List Int)(k:Nat):pz ow k≤k:=by
 unfold pz;exact aV (List.length_filter_le _ _) (by rw[List.length_range'];omega)
theorem ctr_O{P:Program}{f:FuncId}{args:List Value}{w:World}{α:Type}{bs:List Nat}{F:α→List bJ}{hb:∀a,bK (F a)=bs}{p:α→Prop}{K:Value→List bJ→Prop}
  (hi:Inv w (bK [exC bs F hb p]) [exC bs F hb p] w) (h:∀a,p a→Inv w (bK (F a)) (F a) w→Ctr P f args w (F a) K):Ctr P f args w [exC bs F hb p] K:=by
 obtain⟨a,h1,h2⟩:=hi.Kj;have e:bK [exC bs F hb p]=bK (F a):=by rw[dV,ug,ax,hb a];rfl
 rw[ax,e]at h2;refine Calls.mono (h a h1 h2) ?_;rintro en w' ⟨v,cout,rfl,hk,hi'⟩;exact⟨v,cout,rfl,hk,by rw[e];exact hi'⟩
def kG(ow:List Int)(fs:List Int)(k:Nat):List Int:=(fs.take k).foldl (fun a f=>a.set f.toNat (-1)) ow
theorem rW{ow fs:List Int}{k:Nat}{f:Int}(h:fs[k]? =some f):kG ow fs (k+1)=(kG ow fs k).set f.toNat (-1):=by
 unfold kG;rw[List.take_add_one,h,List.foldl_append]
 rfl
theorem tT(ow fs:List Int):∀k,(kG ow fs k).length=ow.length
 |0=>by simp[kG]
 |k+1=>by
  have ih:=tT ow fs k;cases h:fs[k]? with
  |none=>
   unfold kG at ih⊢;rw[List.take_add_one,h,Option.toList_none,ax];exact ih
  |some f=>rw[rW h,aG,ih]
end Go.Ink
namespace Go.Proofs.YtakodpimdalajaaGreatDoor
open Go.RowKit Go.Ink Go.Proofs.Tryz
attribute [local irreducible] OpY bP
theorem zA(bp:Nat)(B ow pr:List Int)(hl:dI B ow pr)(o:Nat)(ho:o<4)(A:Option Addr)(c:Nat)(fs:List Int)(hf:∀(j:Nat) (f:Int),fs[j]? =some f→∃g:Nat,f=(g:Int)∧16≤g∧g<256∧ow[g]? =some (o:Int)∧(fs.take j).contains f=false)(w:World)
  (hi:Inv w (bK [dj bp B ow pr]) [dj bp B ow pr] w) (hrd:∀w',dC (bK [dj bp B ow pr]) w w'→Rd w' .i64 A fs.length c fs):
  Ctr prog 115 [.pointer (some ⟨bp,0,none⟩),.int .i64 o,.slice A fs.length c] w [dj bp B ow pr] (fun v cs=>v= .int .i64 0∧cs=[dj bp B (kG ow fs fs.length) pr]):=by
 have hrw:=hrd w (dC.refl _ _);have hcap:=hrw.cap;have hmx:=hrw.max;simp only[maxLen]at hmx;have hl':∀k,dI B (kG ow fs k) pr:=fun k=>⟨hl.b,by rw[tT];exact hl.ow,hl.pr⟩
 refine bL func115 rfl ntmps115 rfl hi ?_;refine Z_9 ?_;refine ZSe (fun w hi=>tV o w) ?_;rw[ay (show(0:Int)≤o by omega),ay (show(o:Int)<4 by omega)];refine Z_3 ?_;refine gx ?_;refine fF ?_;refine cw (fun k:Nat=>[(0,.pointer (some ⟨bp,0,none⟩)),(1,.int .i64 o),(2,.slice A fs.length c),(14,.slice A fs.length c),(15,.int .i64 (fs.length:Int)),(16,.int .i64 (k:Int))]) (fun _=>[dj bp B ow pr]) (fun k=>k≤fs.length) (fun k=>fs.length - k) (0) ?_ ?_ ?_ ?_
 ·exact au _
 ·exact Zwk
 ·exact Zu
 rintro k hk;refine Z_6 ?_;refine ZW ?_ ?_<;>intro hc4
 ·simp only[ak]at hc4;have hkl:k<fs.length:=Wq1;obtain⟨ad,rfl⟩:=hrw.some_ Wq1;have hx:=ai hkl;obtain⟨x,hxx⟩:=Zgn (fs[k]'hkl);rw[hxx]at hx;obtain⟨g,rfl,h16,h256,how,hcn⟩:=hf k x hx;have hlk:(fs.take k).length=k:=List.length_take_of_le hk;have HC:=nv (some ad) c (fs.take k) g;have hrt:=fun w' hk'=>lR (hrd w' hk') k
  rw[hlk]at HC hrt;refine Z_7 ?_;refine Zy (cU (j:=k) rfl Zrf (Zv rfl) (Zv rfl) Wq4 Wq4) ?_;refine dL (bO Zrf Zv0) (om hrd (cQ hx)) rfl ?_;refine Z_7 ?_;refine ZSe (fun w hi=>zY g w) ?_;rw[ay (show(16:Int)≤g by omega),ay (show(g:Int)<256 by omega)];refine Z_5 ?_;refine ZFb 16384 ?_;refine Zyn rfl rfl (cV (j:=g) (sz:=1) (r:=16384+g) rfl Zrf (dH rfl) (dH rfl) Wq4 Wq4 Wq1) ?_;refine hH (cq rfl rfl) (bO Zrf (dH rfl)) (cB Zh (ph hl how)) rfl ?_;refine ZB ?_;refine Zyn rfl rfl (y_neq (dH rfl) (dH rfl) (show((o:Int) !=(o:Int))=false from by simp)) ?_;refine Z_4 ?_;refine Zyn rfl rfl (gf k rfl Zrf (dH rfl) (dH rfl) (fun _=>by first|rfl|omega) Wq4) ?_;refine ZB ?_;refine iA (cq rfl rfl) rfl (eW rfl (fun _ _=>rfl) (fun w hi=>HC w (hrt w hi.JJ))) rfl ?_;rintro _ _ ⟨_,⟨rfl,rfl⟩,rfl⟩;rw[hcn];refine Z_3 ?_;refine gx ?_;refine Z_4 ?_;refine Wq8 ?_;refine dM (k+1) ?_ ?_ ?_
  ·exact⟨by omega,by omega⟩
  ·exact Zwk
  exact Zu
 simp only[ah]at hc4;obtain rfl:fs.length=k:=Wq1;refine Z_8 ?_;rw[show ow=kG ow fs 0 from rfl];refine Z_6 ?_;refine cw (fun k:Nat=>[(0,.pointer (some ⟨bp,0,none⟩)),(42,.slice A fs.length c),(43,.int .i64 (fs.length:Int)),(44,.int .i64 (k:Int))]) (fun k=>[dj bp B (kG ow fs k) pr]) (fun k=>k≤fs.length) (fun k=>fs.length - k) (0) ?_ ?_ ?_ ?_
 ·exact au _
 ·exact Zwk
 ·exact Zu
 rintro k hk;refine Z_6 ?_;refine ZW ?_ ?_<;>intro hc10
 ·simp only[ak]at hc10;have hkl:k<fs.length:=Wq1;obtain⟨ad,rfl⟩:=hrw.some_ Wq1;have hx:=ai hkl;obtain⟨x,hxx⟩:=Zgn (fs[k]'hkl);rw[hxx]at hx;obtain⟨g,rfl,h16,h256,how,hcn⟩:=hf k x hx;have hsu:kG ow fs (k+1)=(kG ow fs k).set g (-1):=(by rw[rW hx,aO]);refine Z_6 ?_;refine Zy (cU (j:=k) rfl Zrf (Zv rfl) (Zv rfl) Wq4 Wq4) ?_;refine dL (bO Zrf Zv0) (om hrd (cQ hx)) rfl ?_;refine Z_7 ?_;refine ZFa 16384 ?_;refine Zy (cV (j:=g) (sz:=1) (r:=16384+g) rfl Zrf (Zv rfl) (Zv rfl) Wq4 Wq4 Wq1) ?_;refine dD (eA Zrf rfl rfl rfl Za (by rw[eX (hl' k)];omega)) ?_;rintro _ _ ⟨rfl,rfl⟩;rw[pf (hl' k) (show g<256 by omega),←hsu];refine Z_4 ?_;refine Wq8 ?_;refine dM (k+1) ?_ ?_ ?_
  ·exact⟨by omega,by omega⟩
  ·exact Zwk
  exact Zu
 simp only[ah]at hc10;obtain rfl:fs.length=k:=Wq1;refine fF ?_;refine Zrb ([row _ _ _]) ?_;exact df
theorem GM(bp:Nat)(B ow pr:List Int)(hl:dI B ow pr)(o:Nat)(ho:o<4)(hno:∀x,x∈ow→x≠(o:Int))(w:World)(hi:Inv w (bK [dj bp B ow pr]) [dj bp B ow pr] w):
  Ctr prog 66 [.pointer (some ⟨bp,0,none⟩),.int .i64 o] w [dj bp B ow pr] (fun v cs=>v= .int .i64 0∧cs=[dj bp B ow (pr.set o (-1))]):=by
 have he:=yD hno 256;refine bL func66 rfl ntmps66 rfl hi ?_;refine Z_9 ?_;refine ZSe (fun w hi=>tV o w) ?_;rw[ay (show(0:Int)≤o by omega),ay (show(o:Int)<4 by omega)];refine Z_3 ?_;refine gx ?_;refine Z_6 ?_;refine ZS (fun w hi=>yC bp B ow pr hl o ho w (hi.get Zh)) ?_;rintro _ _ ⟨_,⟨A1,c1,rfl,rfl⟩,rfl⟩;rw[he];refine Z_8 ?_;refine ZcM ([dj bp B ow pr]) (fun w hi hin=>zA bp B ow pr hl o ho A1 c1 [] (fun j f h=>by simp at h) w hin (fun w' hk=>hi.J8 Zi (show Has _ (sl .i64 3 A1 0 c1 [])from Zh) hk)) ?_;rw[show kG ow [] ([]:List Int).length=ow from rfl];refine Z_7 ?_;refine ZFa 16640 ?_;refine Zy (cV (j:=o) (sz:=1) (r:=16640+o) rfl Zrf (Zv rfl) (Zv rfl) Wq4 Wq4 Wq1) ?_;refine dD (eA Zrf rfl rfl rfl Za (by rw[eX hl];omega)) ?_;rintro _ _ ⟨rfl,rfl⟩;rw[pe hl];refine dS ?_;refine Zrb ([row _ _ _]) ?_;exact df
theorem wo(bp:Nat)(B ow pr:List Int)(hl:dI B ow pr)(o:Nat)(ho:o<4)(n:Int)(hn:pr[o]? =some n)(w:World)(hp:(dj bp B ow pr).ok w):
  Ctr prog 33 [.pointer (some ⟨bp,0,none⟩),.int .i64 o] w [] (fun v cs=>v= .int .i64 (if 0>n then 0 else n)∧cs=[]):=by
 refine bL func33 rfl ntmps33 rfl (Inv.start w) ?_;refine Z_9 ?_;refine ZSe (fun w hi=>tV o w) ?_;rw[ay (show(0:Int)≤o by omega),ay (show(o:Int)<4 by omega)];refine Z_3 ?_;refine gx ?_;refine Z_7 ?_;refine ZFa 16640 ?_;refine Zy (cV (j:=o) (sz:=1) (r:=16640+o) rfl Zrf (Zv rfl) (Zv rfl) Wq4 Wq4 Wq1) ?_;refine dL (bO Zrf Zv0) (cS hp (yg hl hn)) rfl ?_;refine Zy (vH Zv0 Zv0 rfl) ?_;refine Z_4 ?_;refine Zra ?_;exact df
theorem GL(bp:Nat)(B ow pr:List Int)(hl:dI B ow pr)(w:World)(hp:(dj bp B ow pr).ok w):
  Ctr prog 32 [.pointer (some ⟨bp,0,none⟩)] w [] (fun v cs=>v= .int .i64 (pz ow 256:Nat)∧cs=[]):=by
 refine bL func32 rfl ntmps32 rfl (Inv.start w) ?_;refine vz ?_;refine cw (fun k:Nat=>[(0,.pointer (some ⟨bp,0,none⟩)),(3,.int .i64 (pz ow k:Nat)),(4,.int .i64 (k:Int))]) (fun _=>[]) (fun k=>16≤k∧k≤256) (fun k=>256 - k) (16) ?_ ?_ ?_ ?_
 ·exact⟨aN _,by omega⟩
 ·exact Zwk
 ·exact Zu
 rintro k ⟨hk1,hk2⟩;have hle:=H4 ow k;have hsu:=B5 ow hk1;refine Z_7 ?_;refine ZW ?_ ?_<;>intro hc3
 ·simp only[ak]at hc3;have hkl:k<ow.length:=(by rw[hl.ow];omega);have hok:=ai hkl;obtain⟨x,hxx⟩:=Zgn (ow[k]'hkl);rw[hxx]at hok;rw[hok,show(some x==some (-1:Int))=(x== -1)from rfl]at hsu;refine Z_9 ?_;refine ZFa 16384 ?_;refine Zy (cV (j:=k) (sz:=1) (r:=16384+k) rfl Zrf (Zv rfl) (Zv rfl) Wq4 Wq4 Wq1) ?_;refine dL (bO Zrf Zv0) (cS hp (ph hl hok)) rfl ?_;refine Z_3 ?_;refine ZW ?_ ?_<;>intro hc5
  ·rw[show(x== -1)=true from hc5,ac]at hsu;refine Z_2 ?_;refine Zy (cX (Zv rfl) (Zv rfl) (show _=((pz ow (k+1):Nat):Int)from by rw[IntWalk.i64_in _ ⟨by omega,by omega⟩];omega)) ?_;refine Z_6 ?_;refine Wq8 ?_;refine dM (k+1) ?_ ?_ ?_
   ·exact⟨⟨by omega,by omega⟩,by omega⟩
   ·exact Zwk
   exact Zu
  rw[show(x== -1)=false from hc5,aa]at hsu;refine Z_5 ?_;refine Wq8 ?_;rw[show pz ow k=pz ow (k+1) by omega];refine dM (k+1) ?_ ?_ ?_
  ·exact⟨⟨by omega,by omega⟩,by omega⟩
  ·exact Zwk
  exact Zu
 simp only[ah]at hc3;obtain rfl:k=256:=Wq1;refine gE ?_;refine Zra ?_;exact df
theorem Bj(bt bp o bf bg n:Nat)(hn:n≤64)(fr:List Int)(hfr:fr.length=n)(w:World)(h:(iD bt bp o bf bg n).ok w)(h2:(frC bf n fr).ok w):
  Ctr prog 113 [.pointer (some ⟨bt,0,none⟩)] w [] (fun v cs=>∃A c,v= .slice A (iv fr n).length c∧cs=[sl .i64 3 A (iv fr n).length c (iv fr n)]):=by
 have hrd:=gX h2;refine bL func113 rfl ntmps113 rfl (Inv.start w) ?_;refine jA ?_;refine dy 3 1 ?_;refine Z_3 ?_;refine sB ?_;refine Z_5 ?_;refine cw (fun s:Nat×Option Addr×Nat=>[(3,.slice s.2.1 (iv fr s.1).length s.2.2),(9,.slice (some ⟨bf,0,none⟩) n n),(10,.int .i64 (n:Int)),(11,.int .i64 (s.1:Int))]) (fun s=>[sl .i64 3 s.2.1 (iv fr s.1).length s.2.2 (iv fr s.1)]) (fun s=>s.1≤n) (fun s=>n - s.1) ((0,none,0)) ?_ ?_ ?_ ?_
 ·exact au _
 ·exact Zwk
 ·exact Zu
 rintro⟨k,A1,c1⟩ hk;simp only at hk;dsimp only;refine Z_6 ?_;refine ZW ?_ ?_<;>intro hc3
 ·simp only[ak]at hc3;have hkl:k<fr.length:=Wq1;have hok:=ai hkl;obtain⟨x,hxx⟩:=Zgn (fr[k]'hkl);rw[hxx]at hok;have hle:=zE fr k;have hsu:=BM fr k;rw[hok,show(some x==some (-1:Int))=(x== -1)from rfl]at hsu;refine Z_7 ?_;refine Zy (cU (j:=k) rfl Zrf (Zv rfl) (Zv rfl) Wq4 Wq4) ?_;refine dL (bO Zrf Zv0) (eH hrd (cQ hok)) rfl ?_;refine dS ?_;refine ZW ?_ ?_<;>intro hc5
  ·have he:iv fr (k+1)=iv fr k++[(k:Int)]:=(by have e:(x== -1)=false:=(by have h5:(!(x== -1))=true:=hc5;revert h5;cases(x== -1)<;>simp);rw[hsu,e,aa]);refine Z_3 ?_;refine ku ?_;rintro _ _ ⟨b20,rfl,rfl⟩;refine fb (cC (e:=3) (sz:=1) (bytes:=8) rfl rfl Za rfl rfl (fun w hi=>hi.rd Zh) (jp rfl) g9 Wq1) rfl ?_;rintro _ _ ⟨A2,c2,rfl,rfl⟩;rw[show(iv fr k).length+1=(iv fr (k+1)).length by(rw[he];simp),show ints .i64 (iv fr k)++[Value.int .i64 (k:Int)]=ints .i64 (iv fr (k+1)) by(rw[he];exact cj _ [_])];refine Z_5 ?_;refine Wq8 ?_;refine dM ((k+1,A2,c2)) ?_ ?_ ?_
   ·exact⟨by show k+1≤n;omega,by show n - (k+1)<n - k;omega⟩
   ·exact Zwk
   exact Zu
  have he:iv fr (k+1)=iv fr k:=(by have e:(x== -1)=true:=(by have h5:(!(x== -1))=false:=hc5;revert h5;cases(x== -1)<;>simp);rw[hsu,e,ac,ax]);rw[←he];refine Z_4 ?_;refine Wq8 ?_;refine dM ((k+1,A1,c1)) ?_ ?_ ?_
  ·exact⟨by show k+1≤n;omega,by show n - (k+1)<n - k;omega⟩
  ·exact Zwk
  exact Zu
 simp only[ah]at hc3;obtain rfl:k=n:=Wq1;refine gE ?_;refine Zrb ([slv _ _ _ _ _ _]) ?_;exact⟨_,_,rfl,rfl⟩
abbrev tpF(L:fa)(k:yT):List bJ:=[iD L.bt L.bp L.o L.bf L.bg L.n,frC L.bf L.n k.fr,gdC L.bg L.n k.gd,dj L.bp k.B k.ow k.pr]
theorem CT(L:fa)(k:yT)(hk:mA L k)(o4:L.o<4)(n64:L.n≤64)(p f:Nat)(hp:p<L.n)(hf:k.fr[p]? =some (f:Int))(w:World)(hi:Inv w (bK (tpF L k)) (tpF L k) w):
  Ctr prog 114 [.pointer (some ⟨L.bt,0,none⟩),.int .i64 p] w (tpF L k) (fun v cs=>v= .int .i64 0∧cs=tpF L {k with ow:=k.ow.set f (-1),fr:=k.fr.set p (-1),gd:=k.gd.set p false}):=by
 obtain⟨⟨h16,h256,how⟩,hu⟩:=hk.unmap hf;refine bL func114 rfl ntmps114 rfl hi ?_;refine Z_9 ?_;refine ZSe (fun w hi=>jI L.bt L.bp L.o L.bf L.bg L.n p k.fr f hp hf w (hi.get Zh) (hi.get Zh)) ?_;rw[nm];refine gL ?_;refine gx ?_;refine Z_3 ?_;refine bR ⟨fun j=>List.elem j [11,13],[]⟩ Zk ?_;refine gn ?_;refine ZFe 2 2 ?_;refine ZG 3 ?_;refine ZE 4 ?_;refine ZE 5 ?_;refine ZE 6 ?_;refine ZFe 7 3 ?_;refine ZG 8 ?_;refine ZE 9 ?_;refine cD 10 rfl Zk Zk Zk (cu (j:=p) (sz:=1) (r:=p) rfl Zrf (Zv rfl) (Zv rfl) Wq4 Wq4 Wq1) rfl ?_;refine ce 11 Zk ?_;refine dp rfl rfl (fo Zrf rfl rfl rfl Za Wq1) ZJ ?_;rintro _ _ ⟨rfl,rfl⟩;rw[fV];refine cD 12 rfl Zk Zk Zk (cu (j:=p) (sz:=1) (r:=p) rfl Zrf (Zv rfl) (Zv rfl) Wq4 Wq4 Wq1) rfl ?_;refine ce 13 Zk ?_;refine dp rfl rfl (fo Zrf rfl rfl rfl Za Wq1) ZJ ?_;rintro _ _ ⟨rfl,rfl⟩;rw[xv];refine dr ?_;refine Z_2 ?_;refine bR ⟨fun j=>List.elem j [10],[]⟩ Zk ?_;refine gn ?_;refine ZFe 2 0 ?_;refine ZG 3 ?_;refine ZE 4 ?_;refine ZE 5 ?_;refine ZFe 6 1 ?_;refine ZG 7 ?_;refine ZE 8 ?_;refine ce 9 Zk ?_;refine vD ?_;rintro _ _ ⟨b36,rfl,rfl⟩;refine ce 10 Zk ?_;refine ZcA ([dj L.bp k.B k.ow k.pr]) (fun w hi hin=>zA L.bp k.B k.ow k.pr hk.pl L.o o4 (some ⟨b36,0,none⟩) 1 [(f:Int)] (fun j x hx=>by cases j with|zero=>exact⟨f,(aD hx).symm,h16,h256,how,rfl⟩|succ j=>cases hx) w hin (fun w' hk=>hi.J8 Zi (show Has _ (sl .i64 3 (some ⟨b36,0,none⟩) 1 1 [(f:Int)])from Zh) hk)) ?_;rintro _ _ ⟨_,⟨rfl,rfl⟩,rfl⟩;refine dr ?_;refine Z_7 ?_;refine bN (tpF L {k with ow:=k.ow.set f (-1),fr:=k.fr.set p (-1),gd:=k.gd.set p false}) Zj ?_;refine Zrb ([row _ _ _,slv _ _ _ _ _ _,slv _ _ _ _ _ _,row _ _ _]) ?_;exact df
theorem Dw(L:fa)(M:Mem)(hl:L.gw.length=256)(hno:∀x,x∈L.gw→x≠(L.o:Int))(w:World)(hi:Inv w (bK [ek L M]) [ek L M] w):
  Ctr prog 65 [.pointer (some ⟨L.bm,0,none⟩)] w [ek L M] (fun _ cs=>∃B,(dI B L.gw L.gp∧∀f,f<256→L.oth f=true→∀j,j<64→B[f*64+j]? =L.gB[f*64+j]?)∧cs=[dj L.bp B L.gw L.gp]):=by
 refine ctr_O hi fun k hk hi=>?_
 have n64:=hk.n64;have o4:=hk.o4;have hfr:=hk.fr;have htl:=hk.tl;have hml:(iv k.fr L.n).length=(vC k.fr L.n).length:=List.length_map _;have hmt:=zE k.fr L.n;refine bL func65 rfl ntmps65 rfl hi ?_;unfold BJ;refine Z_7 ?_;refine ZS (fun w hi=>Bj L.bt L.bp L.o L.bf L.bg L.n n64 k.fr hfr w (hi.get Zh) (hi.get Zh)) ?_;rintro _ _ ⟨_,⟨A1,c1,rfl,rfl⟩,rfl⟩;refine ZA ?_;refine jF (sl .i64 3 A1 (iv k.fr L.n).length c1 (iv k.fr L.n)::ry L M.Jt::tpF L k) Zj ?_;refine Z_4 ?_;refine cw (fun q:Nat×yT=>[(0,.pointer (some ⟨L.bm,0,none⟩)),(8,.slice A1 (iv k.fr L.n).length c1),(9,.int .i64 ((iv k.fr L.n).length:Int)),(10,.int .i64 (q.1:Int))]) (fun q=>sl .i64 3 A1 (iv k.fr L.n).length c1 (iv k.fr L.n)::ry L M.Jt::tpF L q.2) (fun q=>ki L k q.2 q.1∧q.1≤(vC k.fr L.n).length) (fun q=>(vC k.fr L.n).length - q.1) ((⟨0,k⟩:Nat×yT)) ?_ ?_ ?_ ?_
 ·exact⟨.none hk.tab,au _⟩
 ·exact Zwk
 ·exact Zu
 rintro⟨j,k'⟩ ⟨hU,hj⟩;dsimp only at hU hj⊢;refine Z_6 ?_;refine ZW ?_ ?_<;>intro hc1
 ·simp only[ak]at hc1;have hjl:j<(vC k.fr L.n).length:=Wq1;have hp:=ai hjl;obtain⟨p,hpp⟩:=Zgn ((vC k.fr L.n)[j]'hjl);rw[hpp]at hp;obtain⟨hpn,f,hf,h16,h256,how,hU2⟩:=hU.at_ hk.tab hp;have hpm:(iv k.fr L.n)[j]? =some (p:Int):=(by unfold iv;rw[aZ,hp];rfl);refine xP (fun w hi=>fM (hi.get (show Has _ (sl .i64 3 A1 (iv k.fr L.n).length c1 (iv k.fr L.n))from Zh)) Wq1) (fun hA=>?_);obtain⟨ba,rfl⟩:=hA;refine Z_6 ?_;refine Zy (cu (j:=j) (sz:=1) (r:=j) rfl Zrf (Zv rfl) (Zv rfl) Wq4 Wq4 Wq1) ?_;refine dL (bO Zrf Zv0) (du Zh (cQ hpm)) rfl ?_;refine Z_9 ?_;refine ZcM (tpF L k') (fun w hi hin=>CT L k' hU.rep o4 n64 p f hpn hf w hin) ?_;refine Z_4 ?_;refine Wq8 ?_;refine bY ((⟨j+1,{k' with ow:=k'.ow.set f (-1),fr:=k'.fr.set p (-1),gd:=k'.gd.set p false}⟩:Nat×yT)) ?_ ?_ ?_
  ·exact⟨⟨hU2,show j+1≤_ by omega⟩,show _ - (j+1)<_ - j by omega⟩
  ·exact Zwk
  exact Zj
 simp only[ah]at hc1;obtain rfl:j=(vC k.fr L.n).length:=Wq1;obtain⟨e1,e2⟩:=hU.rep.none (hU.all hk.tab) hl hno;have e3:=hU.rep.prs;have e4:=hU.rep.pl;refine Z_8 ?_;refine ZFa 66 ?_;refine dD (eA Zrf rfl rfl rfl Za (by rw[jd htl];omega)) ?_;rintro _ _ ⟨rfl,rfl⟩;refine Zn (bN [dj L.bp k'.B k'.ow k'.pr] Zj ?_);refine iF (cs':=[dj L.bp k'.B k'.ow k'.pr]) (.inr rfl) Zu rfl ?_;rw[e1,e3]at e4⊢;exact⟨k'.B,⟨e4,e2⟩,rfl⟩
end Go.Proofs.YtakodpimdalajaaGreatDoor
