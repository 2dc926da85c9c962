/- Lemmas. -/
import Derived.Test.YtomjgmbccamgiaaGreatDoorQaa
import Derived.Test.YtomjgmbccamgiaaGreatDoorQab
import Derived.Test.YtomjgmbccamgiaaGreatDoorQaf
import Derived.Test.YtomjgmbccamgiaaGreatDoorQag
set_option linter.unusedSimpArgs false
set_option linter.unusedVariables false
set_option maxRecDepth 100000
set_option maxHeartbeats 4000000
namespace Go.Ink
open Go.RowKit
end Go.Ink
namespace Go.Proofs.YtomjgmbccamgiaaGreatDoor
open Go.RowKit Go.Ink Go.Proofs.Tryz
attribute [local irreducible] OpY bW
theorem Fa{n lo hi x:Int}(hx:jD n lo hi=x)(w:World)(h0:0≤lo)(h1:lo≤hi)(h2:hi≤1000000000000):Ctr prog 8 [.int .i64 n,.int .i64 lo,.int .i64 hi] w [] (fun v cs=>v= .int .i64 x∧cs=[]):=hx▸i6 n lo hi w h0 h1 h2
end Go.Proofs.YtomjgmbccamgiaaGreatDoor
namespace Go.Ink
open Go.RowKit
abbrev pR:List Int:=[1,1,1,2,3,4,5,6,7,8,16,17,18,19,20,21,22,23,24,25,32,33,34,35,36,37,38,39,40,48,49,50,51,52,53,64,65,66,67,68,0,69]
structure AskR where
 n:Int
 v:Int
 At:Option Addr
 ct:Nat
 ts:List Int
 raw:Bool
 op:Int
 nn:Int
def AskR.cells(a:AskR):List Value:=[.int .i64 a.n,.int .u32 a.v,.slice a.At a.ts.length a.ct,.bool a.raw,.int .i64 a.op,.int .u32 a.nn]
theorem AskR.I7(a:AskR):a.cells.length=6:=rfl
structure AskR.ok(W:World)(a:AskR):Prop where
 v:u32 a.v
 nn:u32 a.nn
 rd:Rd W .u32 a.At a.ts.length a.ct a.ts
 ts:∀x,x∈a.ts→u32 x
end Go.Ink
namespace Go.Proofs.YtomjgmbccamgiaaGreatDoor
open Go.RowKit Go.Ink Go.Proofs.Tryz
attribute [local irreducible] OpY bW
theorem xJ(op:Int)(w:World):Ctr prog 98 [.int .i64 op] w [] (fun v cs=>(∃z,v= .int .i64 z)∧cs=[]):=by
 refine bL func98 rfl ntmps98 rfl (Inv.start w) ?_;refine ic ?_;refine ZW ?_ ?_<;>intro hc1
 ·refine Z_8 ?_;refine Zra ?_;exact⟨⟨_,rfl⟩,rfl⟩
 refine ln ?_;refine Z_3 ?_;refine ZW ?_ ?_<;>intro hc3
 ·refine Z_8 ?_;refine Zra ?_;exact⟨⟨_,rfl⟩,rfl⟩
 refine ln ?_;refine ln ?_;refine Z_3 ?_;refine ZW ?_ ?_<;>intro hc5
 ·refine Z_8 ?_;refine Zra ?_;exact⟨⟨_,rfl⟩,rfl⟩
 refine Z_9 ?_;refine Zra ?_;exact⟨⟨_,rfl⟩,rfl⟩
theorem Dt(n:Int)(w:World):Ctr prog 97 [.int .i64 n] w [] (fun v cs=>(∃z,v= .int .i64 z∧z∈pR)∧cs=[]):=by
 obtain⟨x,hx⟩:=Zgn (jD n 0 1073741824);have hxr:=iP n 0 1073741824 (by decide);rw[hx]at hxr;have HW:=fun w=>Fa hx w (by decide) (by decide) (by decide)
 obtain⟨k,hk⟩:∃k:Nat,x%42=k:=ar (by omega);have hk42:k<pR.length:=by show k<42;omega
 have hop:pR[k]? =some (pR[k]'hk42):=ak hk42;have hmem:pR[k]'hk42∈pR:=List.getElem_mem hk42;obtain⟨op,hq⟩:=Zgn (pR[k]'hk42);rw[hq]at hop hmem;have hk42:k<42:=hk42;refine bL func97 rfl ntmps97 rfl (Inv.start w) ?_;refine Z_7 ?_;refine dM (cm rfl rfl Zrf Zrf rfl rfl) rfl ?_;rintro _ _ ⟨b4,rfl,rfl⟩;refine Z_7 ?_;refine ZSe (fun w hi=>HW w) ?_;refine Z_2 ?_;refine Zy (gt (Zv rfl) (Zv rfl) (by omega) (show _=(k:Int)from by rw[aD (by omega)];exact hk)) ?_;refine Zy (cI (j:=k) (sz:=1) (r:=k) rfl Zrf (Zv rfl) (Zv rfl) (fun _=>by omega) (fun _=>by omega) (by omega)) ?_;refine dU (bM Zrf Zv0) (dE Zh (df (l:=[1,1,1,2,3,4,5,6,7,8,16,17,18,19,20,21,22,23,24,25,32,33,34,35,36,37,38,39,40,48,49,50,51,52,53,64,65,66,67,68,0,69]) hop)) rfl ?_;refine Z_4 ?_;refine Zra ?_;exact⟨⟨_,rfl,hmem⟩,rfl⟩
theorem zi(n v:Int)(hv:u32 v)(w:World):Ctr prog 56 [.int .i64 n,.int .u32 v] w [] (fun x cs=>(∃op nn,x= .agg #[.int .i64 op,.int .u32 nn]∧u32 nn∧op∈pR)∧cs=[]):=by
 obtain⟨v,rfl⟩:∃m:Nat,v=m:=ar hv.1;have hv2:(v:Int)≤4294967295:=hv.2;obtain⟨x,hx,hxu⟩:∃x,([(v:Int),((v%256:Nat):Int),((32768+v%64:Nat):Int),((v%4096:Nat):Int)]:List Int)[v%4]? =some x∧u32 x:=by
  have:v%4=0∨v%4=1∨v%4=2∨v%4=3:=by omega
  rcases this with h|h|h|h<;>rw[h]
  ·exact⟨_,rfl,hv⟩
  ·exact⟨_,rfl,fy (by omega)⟩
  ·exact⟨_,rfl,fy (by omega)⟩
  exact⟨_,rfl,fy (by omega)⟩
 refine bL func56 rfl ntmps56 rfl (Inv.start w) ?_;refine Z_2 ?_;refine ZN fun b4=>?_;refine Z_5 ?_;refine ZS (fun w hi=>Dt n w) ?_;rintro _ _ ⟨_,⟨⟨op,rfl,hop⟩,rfl⟩,rfl⟩;refine ZA ?_;refine ZN fun b5=>?_
 refine ZM ?_;refine Z_7 ?_;refine ZS (fun w hi=>xJ op w) ?_;rintro _ _ ⟨_,⟨⟨z,rfl⟩,rfl⟩,rfl⟩;refine Z_9 ?_;refine ZW ?_ ?_<;>intro hc3
 ·refine Z_3 ?_;refine Zy (gt (Zv rfl) (Zv rfl) (by omega) (show _=((v%256:Nat):Int)from by rw[aD (by omega)];omega)) ?_;refine Z_1 ?_;refine ZL ?_;refine qp ?_;refine ZW ?_ ?_<;>intro hc5
  ·refine Z_2 ?_;refine Zy (gt (Zv rfl) (Zv rfl) (by omega) (show _=((v%12:Nat):Int)from by rw[aD (by omega)];omega)) ?_;refine Z_1 ?_;refine ZL ?_;refine ic ?_;refine ZW ?_ ?_<;>intro hc7
   ·refine Z_2 ?_;refine Zy (gt (Zv rfl) (Zv rfl) (by omega) (show _=((v%40:Nat):Int)from by rw[aD (by omega)];omega)) ?_;refine Zy (cF (Zv rfl) (Zv rfl) (show _=((v%40+240:Nat):Int)from by rw[u32_wrap_id _ (by omega) (by omega)];omega)) ?_;refine Zy (gt (Zv rfl) (Zv rfl) (by omega) (show _=(((v%40+240)%256:Nat):Int)from by rw[aD (by omega)];omega)) ?_;refine Z_1 ?_;refine ZL ?_;refine Z_6 ?_;refine ZM ?_;refine Z_3 ?_;refine kk (cs':=[]) (.inl rfl) Zu rfl rfl Zh Zrf Zrf ?_;exact⟨⟨_,_,rfl,(by first|exact u0|exact hxu|exact fy (by omega)),hop⟩,rfl⟩
   refine Z_6 ?_;refine ZM ?_;refine Z_3 ?_;refine kk (cs':=[]) (.inl rfl) Zu rfl rfl Zh Zrf Zrf ?_;exact⟨⟨_,_,rfl,(by first|exact u0|exact hxu|exact fy (by omega)),hop⟩,rfl⟩
  refine ic ?_;refine ZW ?_ ?_<;>intro hc7
  ·refine Z_2 ?_;refine Zy (gt (Zv rfl) (Zv rfl) (by omega) (show _=((v%40:Nat):Int)from by rw[aD (by omega)];omega)) ?_;refine Zy (cF (Zv rfl) (Zv rfl) (show _=((v%40+240:Nat):Int)from by rw[u32_wrap_id _ (by omega) (by omega)];omega)) ?_;refine Zy (gt (Zv rfl) (Zv rfl) (by omega) (show _=(((v%40+240)%256:Nat):Int)from by rw[aD (by omega)];omega)) ?_;refine Z_1 ?_;refine ZL ?_;refine Z_6 ?_;refine ZM ?_;refine Z_3 ?_;refine kk (cs':=[]) (.inl rfl) Zu rfl rfl Zh Zrf Zrf ?_;exact⟨⟨_,_,rfl,(by first|exact u0|exact hxu|exact fy (by omega)),hop⟩,rfl⟩
  refine Z_6 ?_;refine ZM ?_;refine Z_3 ?_;refine kk (cs':=[]) (.inl rfl) Zu rfl rfl Zh Zrf Zrf ?_;exact⟨⟨_,_,rfl,(by first|exact u0|exact hxu|exact fy (by omega)),hop⟩,rfl⟩
 refine Z_6 ?_;refine ZW ?_ ?_<;>intro hc9
 ·refine Z_3 ?_;refine Zy (gt (Zv rfl) (Zv rfl) (by omega) (show _=((v%256:Nat):Int)from by rw[aD (by omega)];omega)) ?_;refine ZA ?_;refine Zy (gt (Zv rfl) (Zv rfl) (by omega) (show _=((v%64:Nat):Int)from by rw[aD (by omega)];omega)) ?_;refine Zy (cF (Zv rfl) (Zv rfl) (show _=((32768+v%64:Nat):Int)from by rw[u32_wrap_id _ (by omega) (by omega)];omega)) ?_;refine ZA ?_;refine Zy (gt (Zv rfl) (Zv rfl) (by omega) (show _=((v%4096:Nat):Int)from by rw[aD (by omega)];omega)) ?_;refine dM (cm rfl rfl Zrf Zrf rfl rfl) rfl ?_;rintro _ _ ⟨b51,rfl,rfl⟩;refine ZA ?_;refine Zy (gt (Zv rfl) (Zv rfl) (by omega) (show _=((v%4:Nat):Int)from by rw[aD (by omega)];omega)) ?_;refine Zy (cI (j:=(v%4)) (sz:=1) (r:=(v%4)) rfl Zrf (Zv rfl) (Zv rfl) (fun _=>by omega) (fun _=>by omega) (by omega)) ?_;refine dU (bM Zrf Zv0) (dE Zh (df (l:=[(v:Int),((v%256:Nat):Int),((32768+v%64:Nat):Int),((v%4096:Nat):Int)]) hx)) rfl ?_;refine Z_1 ?_;refine ZL ?_;refine Z_6 ?_;refine ZM ?_;refine Z_3 ?_;refine kk (cs':=[]) (.inl rfl) Zu rfl rfl Zh Zrf Zrf ?_;exact⟨⟨_,_,rfl,(by first|exact u0|exact hxu|exact fy (by omega)),hop⟩,rfl⟩
 refine Z_6 ?_;refine ZM ?_;refine Z_3 ?_;refine kk (cs':=[]) (.inl rfl) Zu rfl rfl Zh Zrf Zrf ?_;exact⟨⟨_,_,rfl,(by first|exact u0|exact hxu|exact fy (by omega)),hop⟩,rfl⟩
end Go.Proofs.YtomjgmbccamgiaaGreatDoor
namespace Go.Ink
open Go.RowKit
end Go.Ink
namespace Go.Proofs.YtomjgmbccamgiaaGreatDoor
open Go.RowKit Go.Ink Go.Proofs.Tryz
attribute [local irreducible] OpY bW
end Go.Proofs.YtomjgmbccamgiaaGreatDoor
namespace Go.Ink
open Go.RowKit
section
variable {n:Nat} {op nn:Int} {s:St} {U:Mmu} {d:Dev}
end
theorem lN{W:World}{k:IntKind}{A:Option Addr}{c:Nat}{b:List Int}(h:Rd W k A b.length c b)(m:Nat):Rd W k A (b.take m).length c (b.take m):=by
 refine⟨by simp[ints],?_,h.max,fun e=>?_,fun ad e j u hu=>h.at_ ad e j u ?_⟩
 ·have:=h.cap;rw[az];omega
 ·have:=h.nil e;rw[az];omega
 unfold ints at hu⊢;rw[bj]at hu⊢;rw[List.getElem?_take]at hu;by_cases hj:j<m
 ·simpa[hj]using hu
 simp[hj]at hu
end Go.Ink
namespace Go.Proofs.YtomjgmbccamgiaaGreatDoor
open Go.RowKit Go.Ink Go.Proofs.Tryz
attribute [local irreducible] OpY bW
theorem Es(A:Option Addr)(c:Nat)(l:List Int)(k:Nat)(w:World)(hc:l.length≤c):Ctr prog 27 [.slice A l.length c,.int .i64 k] w [] (fun v cs=>v= .slice A (l.take k).length c∧cs=[]):=by
 rw[az,Nat.min_comm];refine bL func27 rfl ntmps27 rfl (Inv.start w) ?_;refine ic ?_;refine ZW ?_ ?_<;>intro hc1
 ·simp only[ap]at hc1;have e:min l.length k=k:=by omega
  rw[e];refine Z_4 ?_;refine Zy (gL k rfl Zrf (Zv rfl) (Zv rfl) (fun _=>by first|rfl|omega) (fun _=>by omega)) ?_;refine Z_5 ?_;refine Zra ?_;exact⟨rfl,rfl⟩
 simp only[aj]at hc1;have e:min l.length k=l.length:=by omega
 rw[e];refine Z_9 ?_;refine Zra ?_;exact⟨rfl,rfl⟩
theorem wf_u8{n:Int}(h:(Lit.int .u8 n).wf=true):0≤n∧n≤255:=by
 simp only[Lit.wf,aB,ap]at h;have h1:IntKind.u8.min=0:=rfl;have h2:IntKind.u8.max=255:=rfl;rw[h1,h2]at h;exact h
theorem oJ(b:Nat)(Ao:Option Addr)(co:Nat)(o:List Int)(Ai:Option Addr)(ni ci:Nat)(ho:o.length≤1000000000)(w:World)(h:(yq b Ao o.length co Ai ni ci).ok w)(h2:(b8 Ao co o).ok w):
  Ctr prog 14 [.pointer (some ⟨b,0,none⟩)] w [] (fun v cs=>∃A' c',v= .slice A' o.length c'∧cs=[b8 A' c' o]):=by
 refine bL func14 rfl ntmps14 rfl (Inv.start w) ?_;refine eK ?_;refine dU (bM Zrf (Zv rfl)) (dL (by assumption) rfl) rfl ?_;refine ZS (fun w hi=>sr Ao _ co o w (RdV.IB (dq h2) hi) (by omega)) ?_;rintro _ _ ⟨_,⟨A',c',rfl,rfl⟩,rfl⟩;refine Z_4 ?_;refine Zrb ([slv _ _ _ _ _ _]) ?_;exact⟨_,_,rfl,rfl⟩
end Go.Proofs.YtomjgmbccamgiaaGreatDoor
namespace Go.Ink
open Go.RowKit
end Go.Ink
namespace Go.Proofs.YtomjgmbccamgiaaGreatDoor
open Go.RowKit Go.Ink Go.Proofs.Tryz
attribute [local irreducible] OpY bW
end Go.Proofs.YtomjgmbccamgiaaGreatDoor
namespace Go.Ink
open Go.RowKit
section
variable {n:Nat} {U:Mmu} {s:Sp}
end
section
variable {n:Nat} {U:Mmu} {s:Sp} {d:Dev}
theorem Am:iB (List.replicate 64 false) 64=[]:=by rfl
end
def xv:List Int:=[0,1,28,2,29,14,24,3,30,22,20,15,25,17,4,8,31,27,13,23,21,19,16,7,26,12,18,6,11,5,10,9]
def uT(b:Nat):Nat→Nat→Option Nat
 |_,0=>none
 |k,m+1=>bif b/2^k%2==1 then some k else uT b (k+1) m
def nY(b:Nat):Option Nat:=uT b 0 8
def tzAnd(x:Int):Int:=bits .and .u32 x (IntKind.u32.wrap (0 - x))
def tzMul(x:Int):Int:=IntKind.u32.wrap (tzAnd x*125613361)
def B5(x:Int):Int:=(tzMul x).fdiv (2^(min (Int.toNat 27) IntKind.u32.bits))
def tzSay(x:Nat):Bool:=x==0||match nY x with
 |some k=>decide (0≤B5 x)&&decide (B5 x<32)&&(xv[(B5 x).toNat]? ==some (k:Int))&&decide (k<8)
 |none=>false
theorem tz_all:(List.range 256).all tzSay=true:=by decide+kernel
theorem B4{x:Nat}(h0:0<x)(h:x<256):∃k j:Nat,nY x=some k∧k<8∧B5 x=(j:Int)∧j<32∧xv[j]? =some (k:Int):=by
 have h1:=bD.1 tz_all x (List.mem_range.2 h);have e:(x==0)=false:=by simp;omega
 unfold tzSay at h1;rw[e,Bool.false_or]at h1;cases hl:nY x with
 |none=>rw[hl]at h1;cases h1
 |some k=>
  rw[hl]at h1;simp only[aB,ap,beq_iff_eq]at h1;obtain⟨⟨⟨h2,h3⟩,h4⟩,h5⟩:=h1;exact⟨k,(B5 x).toNat,rfl,h5,by omega,by omega,h4⟩
theorem Gi:nY 0=none:=by decide
def Gv(d:Dev):Option Nat:=nY (bits .and .u32 d.IH d.mask).toNat
def Dev.tick(d:Dev)(count:Int):Dev:=bif(d.timer==0)||decide (IntKind.u32.wrap count<d.timer)then d else{d with timer:=0,IH:=bits .or .u32 d.IH 1}
def told(s:St)(d:Dev):St:=match Gv d with
 |some k=>bif s.ie then s.Iv ((16+k:Nat):Int) 0 else s
 |none=>s
structure Hg where
 s:St
 place:Int
 runs:Bool
 u:Mmu
 d:Dev
def St.space(s:St):Sp:=⟨s.It,s.Il,s.root.toNat⟩
def sC(n:Nat)(s:St)(U:Mmu)(d:Dev):Hg:=
 let q:=cW n U s.space s.pc.toNat 1
 bif q.1.2.Im !=0 then⟨s.next.Iv q.1.2.Im q.1.2.addr,0,false,q.2,d⟩else⟨s,q.1.1,true,q.2,d⟩
def JE(n:Nat)(s:St)(U:Mmu)(d:Dev):Hg:=
 bif !s.right||s.halted then⟨s,0,false,U,d⟩else sC n (told s (d.tick s.count)) U (d.tick s.count)
def xi:List Int→Int
 |[]=>0
 |b::l=>b+256*xi l
def dY(b:List Int):Option ((Int×Int)×Nat):=
 match b with
 |[]=>none
 |op::l=>bif cG op==0 then none else bif decide ((l.length:Int)+1<cG op)then none else some ((op,xi (l.take ((cG op).toNat - 1))),(cG op).toNat)
def ft(n:Nat)(M:Mem)(p:Nat):Option ((Int×Int)×Nat):=
 bif decide (p/64<n)then dY (((M.data.drop (p/64*64)).take 64).drop (p%64))else none
def gq(op:Int):Bool:=(decide (32≤op)&&decide (op≤40))||(decide (64≤op)&&decide (op≤69))
def kC(op:Int)(r:Res)(Iy was:Int):Bool:=bif gq op||r.Jk||r.device||r.s.halted||r.Ig.contains Iy then false else(r.s.pc/64==was/64)
def eZ(n:Nat)(Iy:Nat):Nat→St→Nat→Mmu→Dev→St×Mmu×Dev
 |0,s,_,U,d=>(s,U,d)
 |k+1,s,p,U,d=>match ft n U.m p with
  |none=>(s.next.Iv 1 0,U,d)
  |some ((op,nn),sz)=>
   let q:=vd n s op nn U d
   bif kC op q.1 Iy s.pc then eZ n Iy k q.1.s ((p+sz)%4294967296) q.2.1 q.2.2 else(q.1.s,q.2.1,q.2.2)
def dT(n:Nat)(s:St)(U:Mmu)(d:Dev):St×Mmu×Dev:=
 let b:=JE n s U d
 bif b.runs then eZ n (b.place.toNat/64) 8 b.s b.place.toNat b.u b.d else(b.s,b.u,b.d)
def nQ(n:Nat)(m:Int)(from_:Int):Nat→St×Mmu×Dev→St×Mmu×Dev
 |0,q=>q
 |k+1,q=>bif decide (0<m)&& !q.1.halted&&decide (IntKind.u64.wrap (q.1.count - from_)<m)then nQ n m from_ k (dT n q.1 q.2.1 q.2.2)else q
def dD(op:Int):Bool:=bif(bif decide (0≤op)then decide (op≤8)else false)then true else bif(bif bif decide (16≤op)then decide (op≤25)else false then op !=24 else false)then true else(bif decide (32≤op)then decide (op≤40)else false)
theorem iS{op:Int}(h:dD op=true):(0≤op∧op≤8)∨(16≤op∧op≤23)∨op=25∨(32≤op∧op≤40):=by
 unfold dD at h;by_cases h1:0≤op<;>by_cases h2:op≤8<;>by_cases h3:16≤op<;>by_cases h4:op≤25<;>by_cases h5:op=24<;>by_cases h6:32≤op<;>by_cases h7:op≤40<;>simp[h1,h2,h3,h4,h5,h6,h7]at h<;>omega
theorem nV{op:Int}(h:dD op=true):op=0∨op=1∨op=2∨op=3∨op=4∨op=5∨op=6∨op=7∨op=8∨(16≤op∧op≤23)∨op=25∨op=32∨(33≤op∧op≤37)∨op=38∨op=39∨op=40:=by
 rcases iS h with h|h|h|h<;>omega
theorem ul{α:Type}{p:List α→Prop}(h0:p [])(hs:∀l x,p l→p (l++[x]))(l:List α):p l:=by
 have h:∀m:List α,p m.reverse:=fun m=>by
  induction m with
  |nil=>exact h0
  |cons x m ih=>rw[List.reverse_cons];exact hs _ x ih
 have:=h l.reverse;rwa[List.reverse_reverse]at this
structure II where
 op:Int
 dst:Int
 a:Int
 b:Int
 imm:Int
structure Sd where
 l:List Int
 Ik:Int
 high:Int
structure Lw where
 code:List II
 d:Sd
 r:Sd
 flags:Int
 target:Int
 branch:Int
def eW(k:Int)(code:List II)(s:Sd):Int×List II×Sd:=
 match s.l.getLast? with
 |some n=>(n,code,⟨s.l.dropLast,s.Ik,s.high⟩)
 |none=>(code.length,code++[⟨k,code.length,0,0,IntKind.u32.wrap s.Ik⟩],⟨[],s.Ik+1,s.high⟩)
def Sd.put(s:Sd)(l:List Int):Sd:=⟨s.l++l,s.Ik,s.high⟩
def Sd.top(s:Sd):Sd:=⟨s.l,s.Ik,max s.high ((s.l.length:Int) - s.Ik)⟩
def Lw.In(w:Lw):Int×Lw:=((eW 1 w.code w.d).1,⟨(eW 1 w.code w.d).2.1,(eW 1 w.code w.d).2.2,w.r,w.flags,w.target,w.branch⟩)
def Lw.IS(w:Lw):Int×Lw:=((eW 2 w.code w.r).1,⟨(eW 2 w.code w.r).2.1,w.d,(eW 2 w.code w.r).2.2,w.flags,w.target,w.branch⟩)
def Lw.IX(w:Lw)(l:List Int):Lw:=⟨w.code,w.d.put l,w.r,w.flags,w.target,w.branch⟩
def Lw.Jq(w:Lw)(l:List Int):Lw:=⟨w.code,w.d,w.r.put l,w.flags,w.target,w.branch⟩
def Lw.add(w:Lw)(op a b imm:Int):Lw:=⟨w.code++[⟨op,w.code.length,a,b,imm⟩],w.d,w.r,w.flags,w.target,w.branch⟩
def Lw.here(w:Lw):Int:=w.code.length
def Lw.wfl(w:Lw)(x:Int):Lw:=⟨w.code,w.d,w.r,x,w.target,w.branch⟩
def Lw.wtg(w:Lw)(x:Int):Lw:=⟨w.code,w.d,w.r,w.flags,x,w.branch⟩
def Lw.wbr(w:Lw)(x:Int):Lw:=⟨w.code,w.d,w.r,w.flags,w.target,x⟩
def Lw.Io(w:Lw):Lw:=⟨w.code,w.d.top,w.r.top,w.flags,w.target,w.branch⟩
def Lw.reckon(w:Lw)(op a b:Int):Lw:=
 let w1:=(w.add 4 a b op).wfl w.here
 bif op !=25 then(w1.add 3 a b op).IX [w1.here]else w1
def Lw.go(w:Lw)(op n next:Int):Lw:=
 bif op==1||op==2 then(w.add 0 0 0 n).IX [w.here]else
 bif op==3 then w.In.2.IX [w.In.1,w.In.1]else
 bif op==4 then w.In.2 else
 bif op==5 then w.In.2.In.2.IX [w.In.1,w.In.2.In.1]else
 bif op==6 then w.In.2.In.2.IX [w.In.2.In.1,w.In.1,w.In.2.In.1]else
 bif op==7 then w.In.2.Jq [w.In.1]else
 bif op==8 then w.IS.2.IX [w.IS.1]else
 bif decide (16≤op)&&decide (op≤25)then w.In.2.In.2.reckon op w.In.2.In.1 w.In.1 else
 bif op==38 then(w.add 0 0 0 next).Jq [w.here]else
 bif op==39 then w.IS.2.wtg w.IS.1 else
 bif op==40 then w.In.2.wtg w.In.1 else
 bif decide (33≤op)&&decide (op≤37)then w.wbr op else w
def Lw.one(w:Lw)(op n next:Int):Lw:=(w.go op n next).Io
def kg(D R V:List Int)(x:II):Int:=
 bif x.op==0 then x.imm else bif x.op==1 then D.getD (D.length - 1 - x.imm.toNat) 0 else bif x.op==2 then R.getD (R.length - 1 - x.imm.toNat) 0 else
 bif x.op==3 then(iq x.imm (V.getD x.a.toNat 0) (V.getD x.b.toNat 0)).1 else(iq x.imm (V.getD x.a.toNat 0) (V.getD x.b.toNat 0)).2.1
def IQ(D R:List Int)(code:List II):List Int:=code.foldl (fun V x=>V++[kg D R V x]) []
section
variable {D R:List Int}
theorem kw(code:List II)(x:II):IQ D R (code++[x])=IQ D R code++[kg D R (IQ D R code) x]:=by simp[IQ]
theorem qt(code:List II):(IQ D R code).length=code.length:=by
 refine ul (p:=fun code=>(IQ D R code).length=code.length) rfl (fun l x ih=>?_) code;rw[kw];simp[ih]
theorem yH(c e:List II):∃m,IQ D R (c++e)=IQ D R c++m:=by
 refine ul (p:=fun e=>∃m,IQ D R (c++e)=IQ D R c++m) ⟨[],by simp⟩ (fun l x ih=>?_) e;obtain⟨m,hm⟩:=ih;rw[←aq,kw,hm];exact⟨_,aq ..⟩
def II.in_(n:Int)(code:List II):Prop:=0≤n∧n<(code.length:Int)
def dZ(D R:List Int)(code:List II)(n:Int):Int:=(IQ D R code).getD n.toNat 0
theorem g9{c e:List II}{n:Int}(h:II.in_ n c):dZ D R (c++e) n=dZ D R c n:=by
 obtain⟨m,hm⟩:=yH (D:=D) (R:=R) c e;have hl:=qt (D:=D) (R:=R) c;have h2:n.toNat<(IQ D R c).length:=by have:=h.1;have:=h.2;omega
 unfold dZ;rw[hm];simp only[ax];rw[bE h2]
theorem pV{c:List II}{n:Int}(e:List II)(h:II.in_ n c):II.in_ n (c++e):=⟨h.1,by have:=h.2;simp;omega⟩
theorem i7(c:List II)(x:II):dZ D R (c++[x]) c.length=kg D R (IQ D R c) x:=by
 unfold dZ;rw[kw];have hl:=qt (D:=D) (R:=R) c;simp only[ax,aS];rw[←hl,bG (aQ _)];simp
theorem mb(c:List II)(x:II):II.in_ (c.length:Int) (c++[x]):=⟨by omega,by simp;omega⟩
structure SI(D R D0:List Int)(code:List II)(s:Sd)(t:List Int):Prop where
 Jz:0≤s.Ik
 Jy:s.Ik≤(D0.length:Int)
 eq:t=D0.take (D0.length - s.Ik.toNat)++s.l.map (dZ D R code)
 idx:∀n,n∈s.l→II.in_ n code
theorem SI.app{D0:List Int}{code:List II}{s:Sd}{t:List Int}(h:SI D R D0 code s t)(e:List II):SI D R D0 (code++e) s t:=
 ⟨h.Jz,h.Jy,by rw[h.eq];congr 1;exact List.map_congr_left fun n hn=>(g9 (h.idx n hn)).symm,fun n hn=>pV e (h.idx n hn)⟩
theorem SI.put{D0:List Int}{code:List II}{s:Sd}{t:List Int}(h:SI D R D0 code s t)(l:List Int)(hl:∀n,n∈l→II.in_ n code):SI D R D0 code (s.put l) (t++l.map (dZ D R code)):=
 ⟨h.Jz,h.Jy,by rw[h.eq];simp[Sd.put],fun n hn=>by rcases aV.1 hn with h1|h1;exact h.idx n h1;exact hl n h1⟩
theorem SI.top{D0:List Int}{code:List II}{s:Sd}{t:List Int}(h:SI D R D0 code s t):SI D R D0 code s.top t:=⟨h.Jz,h.Jy,h.eq,h.idx⟩
theorem SI.len{D0:List Int}{code:List II}{s:Sd}{t:List Int}(h:SI D R D0 code s t):(t.length:Int)=(D0.length:Int) - s.Ik+(s.l.length:Int):=by
 have h1:=h.Jz;have h2:=h.Jy;rw[h.eq];simp;omega
theorem CK{D0:List Int}{k:Int}(hk:k=1∧D0=D∨k=2∧D0=R){code:List II}{s:Sd}{t:List Int}(h:SI D R D0 code s t)(hD:D0.length≤100)
  (hn:(eW k code s).2.2.Ik≤(D0.length:Int)):
  ∃l x,t=l++[x]∧SI D R D0 (eW k code s).2.1 (eW k code s).2.2 l∧II.in_ (eW k code s).1 (eW k code s).2.1∧dZ D R (eW k code s).2.1 (eW k code s).1=x∧∃e,(eW k code s).2.1=code++e:=by
 have h0:=h.Jz;have h1:=h.Jy;have he:=h.eq;unfold eW at hn⊢;cases hl:s.l.getLast? with
 |some n=>
  rw[hl]at hn;obtain⟨m,hm⟩:∃m,s.l=m++[n]:=List.getLast?_eq_some_iff.1 hl;refine⟨D0.take (D0.length - s.Ik.toNat)++m.map (dZ D R code),dZ D R code n,?_,⟨h0,h1,?_,?_⟩,?_,rfl,[],?_⟩
  ·rw[he,hm];simp
  ·simp[hm]
  ·intro j hj;rw[hm]at hj;exact h.idx j (by rw[hm];simp at hj⊢;exact Or.inl hj)
  ·exact h.idx n (by rw[hm];simp)
  simp
 |none=>
  rw[hl]at hn;have hs:s.l=[]:=List.getLast?_eq_none_iff.1 hl;have hn:s.Ik+1≤(D0.length:Int):=hn;have hw:IntKind.u32.wrap s.Ik=s.Ik:=by rw[aE];omega
  rw[hs]at he;obtain⟨j,hj⟩:∃j:Nat,s.Ik=j:=⟨s.Ik.toNat,by omega⟩;have hv:dZ D R (code++[⟨k,code.length,0,0,IntKind.u32.wrap s.Ik⟩]) code.length=D0.getD (D0.length - 1 - j) 0:=by
   rw[i7,hw,hj];rcases hk with⟨rfl,rfl⟩|⟨rfl,rfl⟩<;>rfl
  refine⟨D0.take (D0.length - (j+1)),D0.getD (D0.length - 1 - j) 0,?_,⟨by show 0≤s.Ik+1;omega,hn,?_,fun n hn=>by cases hn⟩,mb _ _,hv,_,rfl⟩
  ·rw[he,hj];have e1:D0.length - ((j:Int)).toNat=(D0.length - (j+1))+1:=by omega
   rw[e1,List.map_nil,ay,List.take_add_one];congr 1;have e2:D0.length - 1 - j=D0.length - (j+1):=by omega
   have e3:D0.length - (j+1)<D0.length:=by omega
   rw[e2,ax,ak e3];rfl
  show D0.take _=D0.take _++List.map _ [];rw[List.map_nil,ay,show(s.Ik+1).toNat=j+1 by omega]
structure LI(D R:List Int)(w:Lw)(td tr:List Int):Prop where
 d:SI D R D w.code w.d td
 r:SI D R R w.code w.r tr
def FL(D R:List Int)(f0:Int)(w:Lw)(f:Int):Prop:=w.flags= -1∧f=f0∨II.in_ w.flags w.code∧f=dZ D R w.code w.flags
theorem FL.app{f0 f:Int}{w w':Lw}(h:FL D R f0 w f){e:List II}(hc:w'.code=w.code++e)(hf:w'.flags=w.flags):FL D R f0 w' f:=by
 rcases h with⟨h1,h2⟩|⟨h1,h2⟩
 ·exact Or.inl ⟨by rw[hf,h1],h2⟩
 exact Or.inr ⟨by rw[hf,hc];exact pV e h1,by rw[hf,hc,g9 h1,h2]⟩
theorem o6{w:Lw}{td tr:List Int}(h:LI D R w td tr)(hD:D.length≤100)(hn:w.In.2.d.Ik≤(D.length:Int)):
  ∃l x,td=l++[x]∧LI D R w.In.2 l tr∧II.in_ w.In.1 w.In.2.code∧dZ D R w.In.2.code w.In.1=x∧∃e,w.In.2.code=w.code++e:=by
 obtain⟨l,x,h1,h2,h3,h4,e,h5⟩:=CK (k:=1) (Or.inl ⟨rfl,rfl⟩) h.d hD hn;exact⟨l,x,h1,⟨h2,by have:=h.r.app e;rw[←h5]at this;exact this⟩,h3,h4,e,h5⟩
theorem CL{w:Lw}{td tr:List Int}(h:LI D R w td tr)(hR:R.length≤100)(hn:w.IS.2.r.Ik≤(R.length:Int)):
  ∃l x,tr=l++[x]∧LI D R w.IS.2 td l∧II.in_ w.IS.1 w.IS.2.code∧dZ D R w.IS.2.code w.IS.1=x∧∃e,w.IS.2.code=w.code++e:=by
 obtain⟨l,x,h1,h2,h3,h4,e,h5⟩:=CK (k:=2) (Or.inr ⟨rfl,rfl⟩) h.r hR hn;exact⟨l,x,h1,⟨by have:=h.d.app e;rw[←h5]at this;exact this,h2⟩,h3,h4,e,h5⟩
theorem LI.IX{w:Lw}{td tr:List Int}(h:LI D R w td tr)(l:List Int)(hl:∀n,n∈l→II.in_ n w.code):LI D R (w.IX l) (td++l.map (dZ D R w.code)) tr:=⟨h.d.put l hl,h.r⟩
theorem LI.Jq{w:Lw}{td tr:List Int}(h:LI D R w td tr)(l:List Int)(hl:∀n,n∈l→II.in_ n w.code):LI D R (w.Jq l) td (tr++l.map (dZ D R w.code)):=⟨h.d,h.r.put l hl⟩
theorem LI.add{w:Lw}{td tr:List Int}(h:LI D R w td tr)(op a b imm:Int):LI D R (w.add op a b imm) td tr:=⟨h.d.app _,h.r.app _⟩
theorem LI.Io{w:Lw}{td tr:List Int}(h:LI D R w td tr):LI D R w.Io td tr:=⟨h.d.top,h.r.top⟩
theorem LI.wfl{w:Lw}{td tr:List Int}(h:LI D R w td tr)(x:Int):LI D R (w.wfl x) td tr:=⟨h.d,h.r⟩
theorem LI.wtg{w:Lw}{td tr:List Int}(h:LI D R w td tr)(x:Int):LI D R (w.wtg x) td tr:=⟨h.d,h.r⟩
theorem LI.wbr{w:Lw}{td tr:List Int}(h:LI D R w td tr)(x:Int):LI D R (w.wbr x) td tr:=⟨h.d,h.r⟩
theorem LI.Jt{w:Lw}{td tr:List Int}(h:LI D R w.Io td tr):(td.length:Int)≤(D.length:Int)+w.Io.d.high:=by
 have h1:=h.d.len;have h2:w.Io.d.Ik=w.d.Ik:=rfl;have h3:w.Io.d.l=w.d.l:=rfl;have h4:(w.d.l.length:Int) - w.d.Ik≤w.Io.d.high:=Int.le_max_right _ _;rw[h2,h3]at h1;omega
theorem LI.lenR{w:Lw}{td tr:List Int}(h:LI D R w.Io td tr):(tr.length:Int)≤(R.length:Int)+w.Io.r.high:=by
 have h1:=h.r.len;have h2:w.Io.r.Ik=w.r.Ik:=rfl;have h3:w.Io.r.l=w.r.l:=rfl;have h4:(w.r.l.length:Int) - w.r.Ik≤w.Io.r.high:=Int.le_max_right _ _;rw[h2,h3]at h1;omega
end
section
variable {s:St} {op nn:Int}
theorem H8{R:Run}(hs:s.right=true)(hp:dD op=true)(ho:gX op nn=true)(hm:wk s op nn=R)(ht:R.Iv=Tr.none)(hv:R.device=false)
  (h1:(bV op).1.1≤s.d.length) (h2:(bV op).2.1≤s.r.length) (h3:s.d.length+(bV op).1.2≤16+(bV op).1.1) (h4:s.r.length+(bV op).2.2≤16+(bV op).2.1):
  doN s op nn=⟨R.s,false,false,[]⟩:=by
 have hn:j7 s (bV op)=0:=by
  unfold j7;rw[show decide ((s.d.length:Int)<((bV op).1.1:Int))=false from aF (by omega),show decide ((s.r.length:Int)<((bV op).2.1:Int))=false from aF (by omega),
   show decide (16<(s.d.length:Int) - ((bV op).1.1:Int)+((bV op).1.2:Int))=false from aF (by omega),show decide (16<(s.r.length:Int) - ((bV op).2.1:Int)+((bV op).2.2:Int))=false from aF (by omega)]
  rfl
 have hc:=iS hp;have e1:rz op=false:=by unfold rz;rw[show decide (65≤op)=false from aF (by omega)];rfl
 have e2:(op==66)=false:=by simp;omega
 have e3:(op==67)=false:=by simp;omega
 unfold doN gg;rw[hs,ho,hn,e1,e2,e3,hm];show H6 s R=_;unfold H6;rw[ht,hv]
 rfl
theorem tB(h:(16≤op∧op≤23)∨op=25)(R:Run):dO op nn R=none∧cQ op nn R=(true,bif op !=25 then(R.pop.pop.wfl (iq op R.pop.top R.top).2.1).push [(iq op R.pop.top R.top).1]else R.pop.pop.wfl (iq op R.pop.top R.top).2.1):=by
 have h:op=16∨op=17∨op=18∨op=19∨op=20∨op=21∨op=22∨op=23∨op=25:=by omega
 rcases h with rfl|rfl|rfl|rfl|rfl|rfl|rfl|rfl|rfl<;>exact⟨rfl,rfl⟩
theorem zh(h:33≤op∧op≤37)(R:Run):dO op nn R=none∧cQ op nn R=(true,bif(dg op R.s.flags).1 then R.wpc (jk R nn)else R):=by
 have h:op=33∨op=34∨op=35∨op=36∨op=37:=by omega
 rcases h with rfl|rfl|rfl|rfl|rfl<;>exact⟨rfl,rfl⟩
end
def dS(s:St)(op:Int):Int:=IntKind.u32.wrap (s.pc+IntKind.u32.wrap (cG op))
def pI(D R:List Int)(w:Lw)(op nn nx f:Int):Int:=
 bif(dg w.branch f).1 then IntKind.u32.wrap (nx+kL nn)else bif w.target== -1 then(bif op==32||op==38 then IntKind.u32.wrap (nx+kL nn)else nx)else dZ D R w.code w.target
structure yw(D R:List Int)(f0:Int)(s:St)(op nn:Int)(w':Lw)(s':St):Prop where
 did:doN s op nn=⟨s',false,false,[]⟩
 li:LI D R w' s'.d s'.r
 fl:FL D R f0 w' s'.flags
 pc:s'.pc=pI D R w' op nn (dS s op) s'.flags
 tg:w'.target= -1∨II.in_ w'.target w'.code
 going:op<32→w'.target= -1∧w'.branch=0
 rest:s'=⟨s'.pc,s'.d,s'.r,s'.flags,s.Il,s.It,s.ie,s.root,s.vec,s.epc,s.Im,s.addr,s.Ix,s.eie,IntKind.u64.wrap (s.count+1),s.halted⟩
section
variable {D R:List Int} {f0:Int} {s:St} {op nn:Int} {w w':Lw}
theorem qK{nx f:Int}(hb:w'.branch=0)(ht:w'.target= -1)(h:(op==32||op==38)=false):pI D R w' op nn nx f=nx:=by
 unfold pI;rw[hb,ht,h];rfl
theorem iI(td tr:List Int)(hs:s.right=true)(hp:dD op=true)(ho:gX op nn=true)(hm:dO op nn (eY s op)=some (((eY s op).wd td).wr tr))
  (h1:(bV op).1.1≤s.d.length) (h2:(bV op).2.1≤s.r.length) (h3:s.d.length+(bV op).1.2≤16+(bV op).1.1) (h4:s.r.length+(bV op).2.2≤16+(bV op).2.1)
  (hl:LI D R w' td tr) (hf:FL D R f0 w' s.flags) (hb:w'.branch=0) (ht:w'.target= -1) (ho2:(op==32||op==38)=false):∃s',yw D R f0 s op nn w' s':=
 ⟨(((eY s op).wd td).wr tr).s,H8 hs hp ho (by unfold wk;rw[hm]) rfl rfl h1 h2 h3 h4,hl,hf,(qK hb ht ho2).symm,Or.inl ht,fun _=>⟨ht,hb⟩,rfl⟩
theorem CM(w:Lw):w.d.Ik≤w.In.2.d.Ik:=by
 show w.d.Ik≤(eW 1 w.code w.d).2.2.Ik;unfold eW;cases w.d.l.getLast? with
 |some n=>exact bF _
 |none=>show w.d.Ik≤w.d.Ik+1;omega
theorem mJ{t l:List Int}{x:Int}(h:t=l++[x]):t.length=l.length+1:=by rw[h];simp
theorem uL{td tr:List Int}(h:LI D R w td tr)(hD:D.length≤100)(hn:w.In.2.In.2.d.Ik≤(D.length:Int)):
  ∃l x y,td=(l++[x])++[y]∧LI D R w.In.2.In.2 l tr∧II.in_ w.In.1 w.In.2.In.2.code∧dZ D R w.In.2.In.2.code w.In.1=y∧
   II.in_ w.In.2.In.1 w.In.2.In.2.code∧dZ D R w.In.2.In.2.code w.In.2.In.1=x∧∃e,w.In.2.In.2.code=w.code++e:=by
 obtain⟨l1,y,a1,a2,a3,a4,e1,a5⟩:=o6 h hD (Int.le_trans (CM w.In.2) hn);obtain⟨l,x,b1,b2,b3,b4,e2,b5⟩:=o6 a2 hD hn;exact⟨l,x,y,by rw[a1,b1],b2,by rw[b5];exact pV e2 a3,by rw[b5,g9 a3,a4],b3,b4,e1++e2,by rw[b5,a5,aq]⟩
theorem mf{R':Run}(hs:s.right=true)(hp:dD op=true)(ho:gX op nn=true)(hm:wk s op nn=R')(ht:R'.Iv=Tr.none)(hv:R'.device=false)
  (h1:(bV op).1.1≤s.d.length) (h2:(bV op).2.1≤s.r.length) (h3:s.d.length+(bV op).1.2≤16+(bV op).1.1) (h4:s.r.length+(bV op).2.2≤16+(bV op).2.1)
  (hl:LI D R w' R'.s.d R'.s.r) (hf:FL D R f0 w' R'.s.flags) (hpc:R'.s.pc=pI D R w' op nn (dS s op) R'.s.flags) (htg:w'.target= -1∨II.in_ w'.target w'.code) (hgo:op<32→w'.target= -1∧w'.branch=0)
  (hr:R'.s=⟨R'.s.pc,R'.s.d,R'.s.r,R'.s.flags,s.Il,s.It,s.ie,s.root,s.vec,s.epc,s.Im,s.addr,s.Ix,s.eie,IntKind.u64.wrap (s.count+1),s.halted⟩):∃s',yw D R f0 s op nn w' s':=
 ⟨R'.s,H8 hs hp ho hm ht hv h1 h2 h3 h4,hl,hf,hpc,htg,hgo,hr⟩
theorem kE(h:(16≤op∧op≤23)∨op=25)(w:Lw)(n nx:Int):w.go op n nx=w.In.2.In.2.reckon op w.In.2.In.1 w.In.1:=by
 have h:op=16∨op=17∨op=18∨op=19∨op=20∨op=21∨op=22∨op=23∨op=25:=by omega
 rcases h with rfl|rfl|rfl|rfl|rfl|rfl|rfl|rfl|rfl<;>rfl
theorem j6(h:16≤op∧op≤23):bV op=((2,1),(0,0)):=by
 have h:op=16∨op=17∨op=18∨op=19∨op=20∨op=21∨op=22∨op=23:=by omega
 rcases h with rfl|rfl|rfl|rfl|rfl|rfl|rfl|rfl<;>rfl
theorem rp(h:(16≤op∧op≤23)∨op=25){l:List Int}{x y:Int}(hd:s.d=(l++[x])++[y]):
  wk s op nn=bif op !=25 then((eY s op).wd (l++[(iq op x y).1])).wfl (iq op x y).2.1 else((eY s op).wd l).wfl (iq op x y).2.1:=by
 have e0:eY s op=(eY s op).wd ((l++[x])++[y]):=congrArg (fun t=>(eY s op).wd t) hd;unfold wk;rw[(tB h (eY s op)).1];show(bif(cQ op nn (eY s op)).1 then(cQ op nn (eY s op)).2 else _)=_;rw[(tB h (eY s op)).2];have e1:(eY s op).top=y:=(congrArg Run.top e0).trans (Run.top_wd _ _ _);have e2:(eY s op).pop=(eY s op).wd (l++[x]):=(congrArg Run.pop e0).trans (Run.pop_wd _ _ _);have e3:(eY s op).pop.top=x:=(congrArg Run.top e2).trans (Run.top_wd _ _ _);have e4:(eY s op).pop.pop=(eY s op).wd l:=(congrArg Run.pop e2).trans (Run.pop_wd _ _ _);rw[e1,e3,e4]
 rfl
theorem zu{c:List II}{a b x y:Int}(k6:dZ D R c a=x)(k4:dZ D R c b=y):dZ D R (c++[⟨4,c.length,a,b,op⟩]) c.length=(iq op x y).2.1:=by
 rw[i7,←k6,←k4];rfl
theorem alu_new{c:List II}{a b x y:Int}(k6:dZ D R c a=x)(k4:dZ D R c b=y):dZ D R (c++[⟨3,c.length,a,b,op⟩]) c.length=(iq op x y).1:=by
 rw[i7,←k6,←k4];rfl
theorem jump_no(h:(16≤op∧op≤23)∨op=25):(op==32||op==38)=false:=by
 have h:op=16∨op=17∨op=18∨op=19∨op=20∨op=21∨op=22∨op=23∨op=25:=by omega
 rcases h with rfl|rfl|rfl|rfl|rfl|rfl|rfl|rfl|rfl<;>rfl
theorem one_ok(hp:dD op=true)(ho:gX op nn=true)(hs:s.right=true)(h:LI D R w s.d s.r)(hf:FL D R f0 w s.flags)(hD:D.length≤16)(hR:R.length≤16)(ht:w.target= -1)(hb:w.branch=0)
  (n1:(w.one op nn (dS s op)).d.Ik≤(D.length:Int)) (n2:(w.one op nn (dS s op)).r.Ik≤(R.length:Int))
  (g1:(D.length:Int)+(w.one op nn (dS s op)).d.high≤16) (g2:(R.length:Int)+(w.one op nn (dS s op)).r.high≤16):∃s',yw D R f0 s op nn (w.one op nn (dS s op)) s':=by
 obtain⟨q1,q2, -⟩:=St.fits hs;obtain⟨nx,hnx⟩:=Zgn (dS s op);rcases nV hp with rfl|rfl|rfl|rfl|rfl|rfl|rfl|rfl|rfl|hr|hr|rfl|hr|rfl|rfl|rfl
 ·refine iI s.d s.r hs hp ho rfl (aw _) (aw _) q1 q2 h.Io hf hb ht rfl
 ·have h6:LI D R (w.one 1 nn nx) (s.d++[nn]) s.r:=by
   have h7:=((h.add 0 0 0 nn).IX [w.here] (fun n hn=>by rw[aN.1 hn];exact mb _ _)).Io;rw[List.map_cons,List.map_nil,show dZ D R (w.add 0 0 0 nn).code w.here=nn from i7 _ _]at h7;exact h7
  have h8:=h6.Jt;rw[hnx]at g1;refine iI (s.d++[nn]) s.r hs hp ho rfl (aw _) (aw _) (show s.d.length+1≤16+0 from ?_) q2 (hnx▸h6) (hf.app (w':=w.one 1 nn (dS s 1)) rfl rfl) hb ht rfl;have h9:(((s.d++[nn]).length:Nat):Int)≤_:=h8;have h10:=Int.le_trans h9 g1;simp at h10;omega
 ·have h6:LI D R (w.one 2 nn nx) (s.d++[nn]) s.r:=by
   have h7:=((h.add 0 0 0 nn).IX [w.here] (fun n hn=>by rw[aN.1 hn];exact mb _ _)).Io;rw[List.map_cons,List.map_nil,show dZ D R (w.add 0 0 0 nn).code w.here=nn from i7 _ _]at h7;exact h7
  have h8:=h6.Jt;rw[hnx]at g1;refine iI (s.d++[nn]) s.r hs hp ho rfl (aw _) (aw _) (show s.d.length+1≤16+0 from ?_) q2 (hnx▸h6) (hf.app (w':=w.one 2 nn (dS s 2)) rfl rfl) hb ht rfl;have h9:(((s.d++[nn]).length:Nat):Int)≤_:=h8;have h10:=Int.le_trans h9 g1;simp at h10;omega
 ·obtain⟨l,x,k1,k2,k3,k4,e,k5⟩:=o6 h (by omega) n1;have h6:LI D R (w.one 3 nn nx) (l++[x,x]) s.r:=by
   have h7:=(k2.IX [w.In.1,w.In.1] (by intro n hn;simp at hn;rw[hn];exact k3)).Io;rw[show[w.In.1,w.In.1].map (dZ D R w.In.2.code)=[x,x] by simp[k4]]at h7;exact h7
  have h8:(((l++[x,x]:List Int).length:Nat):Int)≤_:=h6.Jt;rw[hnx]at g1;have h10:=Int.le_trans h8 g1;have h11:=mJ k1;simp at h10;refine iI (l++[x,x]) s.r hs hp ho ((congrArg (fun t=>dO 3 nn ((eY s 3).wd t)) k1).trans (m6 nn (eY s 3) l x)) (show 1≤s.d.length by omega) (aw _) (show s.d.length+2≤16+1 by omega) q2 (hnx▸h6) (hf.app (w':=w.one 3 nn (dS s 3)) k5 rfl) hb ht rfl
 ·obtain⟨l,x,k1,k2,k3,k4,e,k5⟩:=o6 h (by omega) n1;have h6:LI D R (w.one 4 nn nx) (l) s.r:=by
   have h7:=k2.Io;exact h7
  have h8:(((l:List Int).length:Nat):Int)≤_:=h6.Jt;rw[hnx]at g1;have h10:=Int.le_trans h8 g1;have h11:=mJ k1;refine iI (l) s.r hs hp ho ((congrArg (fun t=>dO 4 nn ((eY s 4).wd t)) k1).trans (lI nn (eY s 4) l x)) (show 1≤s.d.length by omega) (aw _) (show s.d.length+0≤16+1 by omega) q2 (hnx▸h6) (hf.app (w':=w.one 4 nn (dS s 4)) k5 rfl) hb ht rfl
 ·obtain⟨l,x,y,k1,k2,k3,k4,k5,k6,e,k7⟩:=uL h (by omega) n1;have h6:LI D R (w.one 5 nn nx) (l++[y,x]) s.r:=by
   have h7:=(k2.IX [w.In.1,w.In.2.In.1] (by intro n hn;simp at hn;rcases hn with rfl|rfl<;>first|exact k3|exact k5)).Io;rw[show[w.In.1,w.In.2.In.1].map (dZ D R w.In.2.In.2.code)=[y,x] by simp[k4,k6]]at h7;exact h7
  have h8:(((l++[y,x]:List Int).length:Nat):Int)≤_:=h6.Jt;rw[hnx]at g1;have h10:=Int.le_trans h8 g1;have h11:s.d.length=l.length+2:=by rw[k1];simp
  simp at h10;refine iI (l++[y,x]) s.r hs hp ho ((congrArg (fun t=>dO 5 nn ((eY s 5).wd t)) k1).trans (lG nn (eY s 5) l x y)) (show 2≤s.d.length by omega) (aw _) (show s.d.length+2≤16+2 by omega) q2 (hnx▸h6) (hf.app (w':=w.one 5 nn (dS s 5)) k7 rfl) hb ht rfl
 ·obtain⟨l,x,y,k1,k2,k3,k4,k5,k6,e,k7⟩:=uL h (by omega) n1;have h6:LI D R (w.one 6 nn nx) (l++[x,y,x]) s.r:=by
   have h7:=(k2.IX [w.In.2.In.1,w.In.1,w.In.2.In.1] (by intro n hn;simp at hn;rcases hn with rfl|rfl|rfl<;>first|exact k3|exact k5)).Io;rw[show[w.In.2.In.1,w.In.1,w.In.2.In.1].map (dZ D R w.In.2.In.2.code)=[x,y,x] by simp[k4,k6]]at h7;exact h7
  have h8:(((l++[x,y,x]:List Int).length:Nat):Int)≤_:=h6.Jt;rw[hnx]at g1;have h10:=Int.le_trans h8 g1;have h11:s.d.length=l.length+2:=by rw[k1];simp
  simp at h10;refine iI (l++[x,y,x]) s.r hs hp ho ((congrArg (fun t=>dO 6 nn ((eY s 6).wd t)) k1).trans (lH nn (eY s 6) l x y)) (show 2≤s.d.length by omega) (aw _) (show s.d.length+3≤16+2 by omega) q2 (hnx▸h6) (hf.app (w':=w.one 6 nn (dS s 6)) k7 rfl) hb ht rfl
 ·obtain⟨l,x,k1,k2,k3,k4,e,k5⟩:=o6 h (by omega) n1;have h6:LI D R (w.one 7 nn nx) l (s.r++[x]):=by
   have h7:=(k2.Jq [w.In.1] (by intro n hn;simp at hn;rw[hn];exact k3)).Io;rw[show[w.In.1].map (dZ D R w.In.2.code)=[x] by simp[k4]]at h7;exact h7
  have h8:(((s.r++[x]:List Int).length:Nat):Int)≤_:=h6.lenR;rw[hnx]at g2;have h10:=Int.le_trans h8 g2;have h11:=mJ k1;simp at h10;refine iI l (s.r++[x]) hs hp ho ((congrArg (fun t=>dO 7 nn ((eY s 7).wd t)) k1).trans (m5 nn (eY s 7) l x)) (show 1≤s.d.length by omega) (aw _) (show s.d.length+0≤16+1 by omega) (show s.r.length+1≤16+0 by omega) (hnx▸h6) (hf.app (w':=w.one 7 nn (dS s 7)) k5 rfl) hb ht rfl
 ·obtain⟨l,x,k1,k2,k3,k4,e,k5⟩:=CL h (by omega) n2;have h6:LI D R (w.one 8 nn nx) (s.d++[x]) l:=by
   have h7:=(k2.IX [w.IS.1] (by intro n hn;simp at hn;rw[hn];exact k3)).Io;rw[show[w.IS.1].map (dZ D R w.IS.2.code)=[x] by simp[k4]]at h7;exact h7
  have h8:(((s.d++[x]:List Int).length:Nat):Int)≤_:=h6.Jt;rw[hnx]at g1;have h10:=Int.le_trans h8 g1;have h11:=mJ k1;simp at h10;refine iI (s.d++[x]) l hs hp ho ((congrArg (fun t=>dO 8 nn ((eY s 8).wr t)) k1).trans (kS nn (eY s 8) l x)) (aw _) (show 1≤s.r.length by omega) (show s.d.length+1≤16+0 by omega) (show s.r.length+0≤16+1 by omega) (hnx▸h6) (hf.app (w':=w.one 8 nn (dS s 8)) k5 rfl) hb ht rfl
 ·have hr2:(16≤op∧op≤23)∨op=25:=Or.inl hr;have e25:(op !=25)=true:=by simp;omega
  have ew:w.one op nn (dS s op)=(((((w.In.2.In.2.add 4 w.In.2.In.1 w.In.1 op).wfl w.In.2.In.2.here).add 3 w.In.2.In.1 w.In.1 op).IX [((w.In.2.In.2.add 4 w.In.2.In.1 w.In.1 op).wfl w.In.2.In.2.here).here])).Io:=by
   refine(congrArg Lw.Io (kE hr2 w nn _)).trans (congrArg Lw.Io ?_);unfold Lw.reckon;rw[e25]
   rfl
  rw[ew]at n1 n2 g1 g2⊢;obtain⟨l,x,y,k1,k2,k3,k4,k5,k6,e,k7⟩:=uL h (by omega) n1;have h6:=(((k2.add 4 w.In.2.In.1 w.In.1 op).wfl w.In.2.In.2.here).add 3 w.In.2.In.1 w.In.1 op).IX [((w.In.2.In.2.add 4 w.In.2.In.1 w.In.1 op).wfl w.In.2.In.2.here).here] (fun n hn=>by
   rw[aN.1 hn];exact mb _ _)
  have hv:=alu_new (D:=D) (R:=R) (op:=op) (c:=w.In.2.In.2.code++[⟨4,w.In.2.In.2.code.length,w.In.2.In.1,w.In.1,op⟩]) ((g9 k5).trans k6) ((g9 k3).trans k4);rw[List.map_cons,List.map_nil]at h6;have h7:=Eq.mp (congrArg (fun v=>LI D R ((((w.In.2.In.2.add 4 w.In.2.In.1 w.In.1 op).wfl w.In.2.In.2.here).add 3 w.In.2.In.1 w.In.1 op).IX [((w.In.2.In.2.add 4 w.In.2.In.1 w.In.1 op).wfl w.In.2.In.2.here).here]) (l++[v]) s.r) hv) h6;have h8:=h7.Io.Jt;have h10:=Int.le_trans h8 g1;have h11:s.d.length=l.length+2:=by rw[k1];simp
  simp at h10;refine mf (R':=((eY s op).wd (l++[(iq op x y).1])).wfl (iq op x y).2.1) hs hp ho (by rw[rp hr2 k1,e25];rfl) rfl rfl ?_ ?_ ?_ ?_ h7.Io ?_ ?_ (Or.inl ht) (fun _=>⟨ht,hb⟩) rfl
  ·rw[j6 hr];show 2≤_;omega
  ·rw[j6 hr];exact aw _
  ·rw[j6 hr];show _+1≤16+2;omega
  ·rw[j6 hr];exact q2
  ·exact Or.inr ⟨pV _ (mb _ _),((g9 (mb _ _)).trans (zu k6 k4)).symm⟩
  refine Eq.symm (qK ?_ ?_ (jump_no hr2))
  ·exact hb
  exact ht
 ·subst hr;have ew:w.one 25 nn (dS s 25)=((w.In.2.In.2.add 4 w.In.2.In.1 w.In.1 25).wfl w.In.2.In.2.here).Io:=rfl;rw[ew]at n1 n2 g1 g2⊢;obtain⟨l,x,y,k1,k2,k3,k4,k5,k6,e,k7⟩:=uL h (by omega) n1;have h7:=((k2.add 4 w.In.2.In.1 w.In.1 25).wfl w.In.2.In.2.here).Io;have h11:s.d.length=l.length+2:=by rw[k1];simp
  refine mf (R':=((eY s 25).wd l).wfl (iq 25 x y).2.1) hs hp ho (by rw[rp (Or.inr rfl) k1];rfl) rfl rfl (show 2≤s.d.length by omega) (aw _) (show s.d.length+0≤16+2 by omega) q2 h7 ?_ ?_ (Or.inl ht) (fun _=>⟨ht,hb⟩) rfl
  ·exact Or.inr ⟨mb _ _,(zu k6 k4).symm⟩
  refine Eq.symm (qK ?_ ?_ rfl)
  ·exact hb
  exact ht
 ·refine mf (R':=(eY s 32).wpc (jk (eY s 32) nn)) hs hp ho rfl rfl rfl (aw _) (aw _) q1 q2 h.Io hf ?_ (Or.inl ht) (fun h=>absurd h (by decide)) rfl;show _=bif(dg w.branch s.flags).1 then _ else bif w.target== -1 then _ else _
  rw[hb,ht];rfl
 ·have h5:op=33∨op=34∨op=35∨op=36∨op=37:=by omega
  have eg:w.one op nn (dS s op)=(w.wbr op).Io:=by rcases h5 with rfl|rfl|rfl|rfl|rfl<;>rfl
  have eq:bV op=((0,0),(0,0)):=by rcases h5 with rfl|rfl|rfl|rfl|rfl<;>rfl
  have ej:(op==32||op==38)=false:=by rcases h5 with rfl|rfl|rfl|rfl|rfl<;>rfl
  rw[eg]at n1 n2 g1 g2⊢;have em:wk s op nn=bif(dg op s.flags).1 then(eY s op).wpc (jk (eY s op) nn)else eY s op:=by
   unfold wk;rw[(zh hr _).1];show(bif(cQ op nn (eY s op)).1 then(cQ op nn (eY s op)).2 else _)=_;rw[(zh hr _).2];rfl
  cases hh:(dg op s.flags).1 with
  |true=>
   rw[hh]at em;refine mf (R':=(eY s op).wpc (jk (eY s op) nn)) hs hp ho em rfl rfl (by rw[eq];exact aw _) (by rw[eq];exact aw _) (by rw[eq];exact q1) (by rw[eq];exact q2) (h.wbr op).Io hf ?_ (Or.inl ht) (fun h=>absurd h (by omega)) rfl;show _=bif(dg op s.flags).1 then _ else _
   rw[hh];rfl
  |false=>
   rw[hh]at em;refine mf (R':=eY s op) hs hp ho em rfl rfl (by rw[eq];exact aw _) (by rw[eq];exact aw _) (by rw[eq];exact q1) (by rw[eq];exact q2) (h.wbr op).Io hf ?_ (Or.inl ht) (fun h=>absurd h (by omega)) rfl;show _=bif(dg op s.flags).1 then _ else bif w.target== -1 then(bif op==32||op==38 then _ else _)else _
   rw[hh,ht,ej];rfl
 ·have ew:w.one 38 nn (dS s 38)=((w.add 0 0 0 (dS s 38)).Jq [w.here]).Io:=rfl;rw[ew]at n1 n2 g1 g2⊢;have h7:=((h.add 0 0 0 (dS s 38)).Jq [w.here] (fun n hn=>by rw[aN.1 hn];exact mb _ _)).Io;rw[List.map_cons,List.map_nil,show dZ D R (w.add 0 0 0 (dS s 38)).code w.here=dS s 38 from i7 _ _]at h7;have h10:=Int.le_trans h7.lenR g2;simp at h10;refine mf (R':=((eY s 38).Jw (dS s 38)).wpc (jk (eY s 38) nn)) hs hp ho rfl rfl rfl (aw _) (aw _) q1 (show s.r.length+1≤16+0 by omega) h7 (hf.app (w':=((w.add 0 0 0 (dS s 38)).Jq [w.here]).Io) rfl rfl) ?_ (Or.inl ht) (fun h=>absurd h (by decide)) rfl;show _=bif(dg w.branch s.flags).1 then _ else bif w.target== -1 then _ else _
  rw[hb,ht];rfl
 ·have ew:w.one 39 nn (dS s 39)=(w.IS.2.wtg w.IS.1).Io:=rfl;rw[ew]at n1 n2 g1 g2⊢;obtain⟨l,x,k1,k2,k3,k4,e,k5⟩:=CL h (by omega) n2;have h11:=mJ k1;have e0:eY s 39=(eY s 39).wr (l++[x]):=congrArg (fun t=>(eY s 39).wr t) k1;have e1:(eY s 39).topR=x:=(congrArg Run.topR e0).trans (Run.topR_wr _ _ _);have e2:(eY s 39).IS=(eY s 39).wr l:=(congrArg Run.IS e0).trans (Run.popR_wr _ _ _);have em:wk s 39 nn=((eY s 39).wr l).wpc x:=by
   have:wk s 39 nn=(eY s 39).IS.wpc (eY s 39).topR:=rfl;rw[this,e1,e2]
  have e3:(w.IS.1== -1)=false:=by have:=k3.1;simp;omega
  refine mf (R':=((eY s 39).wr l).wpc x) hs hp ho em rfl rfl (aw _) (show 1≤s.r.length by omega) q1 (show s.r.length+0≤16+1 by omega) (k2.wtg _).Io (hf.app (w':=(w.IS.2.wtg w.IS.1).Io) k5 rfl) ?_ (Or.inr k3) (fun h=>absurd h (by decide)) rfl;show x=bif(dg w.branch s.flags).1 then _ else bif w.IS.1== -1 then _ else dZ D R w.IS.2.code w.IS.1
  rw[hb,e3,k4];rfl
 have ew:w.one 40 nn (dS s 40)=(w.In.2.wtg w.In.1).Io:=rfl;rw[ew]at n1 n2 g1 g2⊢;obtain⟨l,x,k1,k2,k3,k4,e,k5⟩:=o6 h (by omega) n1;have h11:=mJ k1;have e0:eY s 40=(eY s 40).wd (l++[x]):=congrArg (fun t=>(eY s 40).wd t) k1;have e1:(eY s 40).top=x:=(congrArg Run.top e0).trans (Run.top_wd _ _ _);have e2:(eY s 40).pop=(eY s 40).wd l:=(congrArg Run.pop e0).trans (Run.pop_wd _ _ _);have em:wk s 40 nn=((eY s 40).wd l).wpc x:=by
  have:wk s 40 nn=(eY s 40).pop.wpc (eY s 40).top:=rfl;rw[this,e1,e2]
 have e3:(w.In.1== -1)=false:=by have:=k3.1;simp;omega
 refine mf (R':=((eY s 40).wd l).wpc x) hs hp ho em rfl rfl (show 1≤s.d.length by omega) (aw _) (show s.d.length+0≤16+1 by omega) q2 (k2.wtg _).Io (hf.app (w':=(w.In.2.wtg w.In.1).Io) k5 rfl) ?_ (Or.inr k3) (fun h=>absurd h (by decide)) rfl;show x=bif(dg w.branch s.flags).1 then _ else bif w.In.1== -1 then _ else dZ D R w.In.2.code w.In.1
 rw[hb,e3,k4];rfl
end
structure fI(w w':Lw):Prop where
 nd:w.d.Ik≤w'.d.Ik
 nr:w.r.Ik≤w'.r.Ik
 hd:w.d.high≤w'.d.high
 hr:w.r.high≤w'.r.high
theorem fI.trans{a b c:Lw}(h:fI a b)(k:fI b c):fI a c:=⟨Int.le_trans h.nd k.nd,Int.le_trans h.nr k.nr,Int.le_trans h.hd k.hd,Int.le_trans h.hr k.hr⟩
theorem fI.refl(w:Lw):fI w w:=⟨bF _,bF _,bF _,bF _⟩
theorem mD(k:Int)(c:List II)(s:Sd):s.Ik≤(eW k c s).2.2.Ik∧(eW k c s).2.2.high=s.high:=by
 unfold eW;cases s.l.getLast? with
 |some n=>exact⟨bF _,rfl⟩
 |none=>exact⟨by show s.Ik≤s.Ik+1;omega,rfl⟩
theorem dJ(w:Lw):fI w w.In.2:=⟨(mD 1 w.code w.d).1,bF _,Int.le_of_eq (mD 1 w.code w.d).2.symm,bF _⟩
theorem io(w:Lw):fI w w.IS.2:=⟨bF _,(mD 2 w.code w.r).1,bF _,Int.le_of_eq (mD 2 w.code w.r).2.symm⟩
theorem Ce(w:Lw):fI w w.Io:=⟨bF _,bF _,Int.le_max_left _ _,Int.le_max_left _ _⟩
theorem we{op:Int}(hp:dD op=true)(w:Lw)(n nx:Int):fI w (w.one op n nx):=by
 refine fI.trans ?_ (Ce _);have hs:fI w w.In.2.In.2:=(dJ w).trans (dJ w.In.2);rcases nV hp with rfl|rfl|rfl|rfl|rfl|rfl|rfl|rfl|rfl|hr|hr|rfl|hr|rfl|rfl|rfl
 ·exact⟨(fI.refl w).nd,(fI.refl w).nr,(fI.refl w).hd,(fI.refl w).hr⟩
 ·exact⟨(fI.refl w).nd,(fI.refl w).nr,(fI.refl w).hd,(fI.refl w).hr⟩
 ·exact⟨(fI.refl w).nd,(fI.refl w).nr,(fI.refl w).hd,(fI.refl w).hr⟩
 ·exact⟨(dJ w).nd,(dJ w).nr,(dJ w).hd,(dJ w).hr⟩
 ·exact⟨(dJ w).nd,(dJ w).nr,(dJ w).hd,(dJ w).hr⟩
 ·exact⟨(hs).nd,(hs).nr,(hs).hd,(hs).hr⟩
 ·exact⟨(hs).nd,(hs).nr,(hs).hd,(hs).hr⟩
 ·exact⟨(dJ w).nd,(dJ w).nr,(dJ w).hd,(dJ w).hr⟩
 ·exact⟨(io w).nd,(io w).nr,(io w).hd,(io w).hr⟩
 ·rw[kE (Or.inl hr)];unfold Lw.reckon;rw[show(op !=25)=true by simp;omega];exact⟨(hs).nd,(hs).nr,(hs).hd,(hs).hr⟩
 ·rw[kE (Or.inr hr)];subst hr;exact⟨(hs).nd,(hs).nr,(hs).hd,(hs).hr⟩
 ·exact⟨(fI.refl w).nd,(fI.refl w).nr,(fI.refl w).hd,(fI.refl w).hr⟩
 ·have h5:op=33∨op=34∨op=35∨op=36∨op=37:=by omega
  rcases h5 with rfl|rfl|rfl|rfl|rfl<;>exact⟨(fI.refl w).nd,(fI.refl w).nr,(fI.refl w).hd,(fI.refl w).hr⟩
 ·exact⟨(fI.refl w).nd,(fI.refl w).nr,(fI.refl w).hd,(fI.refl w).hr⟩
 ·exact⟨(io w).nd,(io w).nr,(io w).hd,(io w).hr⟩
 exact⟨(dJ w).nd,(dJ w).nr,(dJ w).hd,(dJ w).hr⟩
theorem pd{a:Nat}(ha:a<18446744073709551616):(BitVec.ofInt IntKind.u64.bits (a:Int)).toNat=a:=by rw[BitVec.toNat_ofInt];show((a:Int)%((18446744073709551616:Nat):Int)).toNat=a;omega
theorem pe{a:Nat}(ha:a<4294967296):(BitVec.ofInt IntKind.u32.bits (a:Int)).toNat=a:=by rw[BitVec.toNat_ofInt];show((a:Int)%((4294967296:Nat):Int)).toNat=a;omega
theorem EJ{a b:Nat}(ha:a<18446744073709551616)(hb:b<18446744073709551616):bits .and .u64 (a:Int) (b:Int)=((a&&&b:Nat):Int):=by
  have h3:a&&&b≤a:=Nat.and_le_left;unfold bits;simp only;rw[aW,BitVec.toNat_and,pd ha,pd hb];omega
theorem or64{a b:Nat}(ha:a<18446744073709551616)(hb:b<18446744073709551616):bits .or .u64 (a:Int) (b:Int)=((a|||b:Nat):Int):=by
  have h3:a|||b<2^64:=Nat.or_lt_two_pow ha hb
  unfold bits;simp only;rw[aW,BitVec.toNat_or,pd ha,pd hb];omega
theorem zY{a b:Nat}(ha:a<18446744073709551616)(hb:b<18446744073709551616):bits .xor .u64 (a:Int) (b:Int)=((a^^^b:Nat):Int):=by
  have h3:a^^^b<2^64:=Nat.xor_lt_two_pow ha hb;unfold bits;simp only;rw[aW,BitVec.toNat_xor,pd ha,pd hb];omega
theorem EK{a b:Nat}(ha:a<4294967296)(hb:b<4294967296):bits .and .u32 (a:Int) (b:Int)=((a&&&b:Nat):Int):=by
  have h3:a&&&b≤a:=Nat.and_le_left;unfold bits;simp only;rw[aE,BitVec.toNat_and,pe ha,pe hb];omega
theorem or32{a b:Nat}(ha:a<4294967296)(hb:b<4294967296):bits .or .u32 (a:Int) (b:Int)=((a|||b:Nat):Int):=by
  have h3:a|||b<2^32:=Nat.or_lt_two_pow ha hb
  unfold bits;simp only;rw[aE,BitVec.toNat_or,pe ha,pe hb];omega
theorem zZ{a b:Nat}(ha:a<4294967296)(hb:b<4294967296):bits .xor .u32 (a:Int) (b:Int)=((a^^^b:Nat):Int):=by
  have h3:a^^^b<2^32:=Nat.xor_lt_two_pow ha hb;unfold bits;simp only;rw[aE,BitVec.toNat_xor,pe ha,pe hb];omega
theorem low64(z:Int):bits .and .u64 (IntKind.u64.wrap z) 4294967295=IntKind.u32.wrap z:=by
  obtain⟨n,hn⟩:∃n:Nat,IntKind.u64.wrap z=n:=ar (by rw[aW];omega);have h1:n<18446744073709551616:=by rw[aW]at hn;omega
  rw[hn,show(4294967295:Int)=((4294967295:Nat):Int)from rfl,EJ h1 (by decide),show(4294967295:Nat)=2^32 - 1 from rfl,Nat.and_two_pow_sub_one_eq_mod];rw[aW]at hn;rw[aE];omega
theorem ix{a b:Nat}(ha:a<4294967296)(hb:b<4294967296):a^^^b<4294967296:=Nat.xor_lt_two_pow (n:=32) ha hb
theorem qH{a b:Nat}(ha:a<4294967296):a&&&b<4294967296:=Nat.lt_of_le_of_lt Nat.and_le_left ha
theorem top32{a:Nat}(ha:a<4294967296):(bits .and .u32 (a:Int) 2147483648 !=0)=decide (2147483648≤a):=by
  have h1:=EK ha (show 2147483648<4294967296 by decide);rw[show((2147483648:Nat):Int)=2147483648 from rfl]at h1;rw[h1];have h2:a&&&2147483648=if 2147483648≤a then 2147483648 else 0:=by
    apply Nat.eq_of_testBit_eq;intro i;rw[show(2147483648:Nat)=2^31 from rfl,Nat.testBit_and,Nat.testBit_two_pow];by_cases e:31=i
    · subst e
      rw[Nat.testBit_eq_decide_div_mod_eq];by_cases h:2^31≤a
      · rw[if_pos h,Nat.testBit_two_pow,aG (show a/2^31%2=1 by omega)];rfl
      rw[if_neg h,aF (show¬a/2^31%2=1 by omega)];rfl
    rw[aF e,Bool.and_false];split
    · rw[Nat.testBit_two_pow,aF e]
    rw[Nat.zero_testBit]
  rw[h2];by_cases h:2147483648≤a
  · rw[if_pos h,aG h];rfl
  rw[if_neg h,aF h];rfl
theorem shr31{a:Nat}(ha:a<4294967296):(a:Int).fdiv (2^(min (Int.toNat 31) IntKind.u64.bits))=b2i (decide (2147483648≤a)):=by
  show(a:Int).fdiv 2147483648=_;by_cases h:2147483648≤a
  · rw[aG h];show(a:Int).fdiv 2147483648=1;rw[Int.fdiv_eq_ediv_of_nonneg _ (by decide)];omega
  rw[aF h];show(a:Int).fdiv 2147483648=0;rw[Int.fdiv_eq_ediv_of_nonneg _ (by decide)];omega
structure HI where
  op:Int
  rd:Int
  ra:Int
  rb:Int
  imm:Int
def HI.zero:HI:=⟨0,0,0,0,0⟩
structure HM where
  IF:List Int
  words:List Int
  pc:Int
def eT(op a b:Int):Int:=
  bif op==2 then a else bif op==3 then IntKind.u64.wrap (a+b)else bif op==4 then IntKind.u64.wrap (a - b)else bif op==5 then bits .and .u64 a b else bif op==6 then bits .or .u64 a b else bif op==7 then bits .xor .u64 a b else
  bif op==8 then IntKind.u64.wrap (a*2^(min b.toNat IntKind.u64.bits))else bif op==9 then a.fdiv (2^(min b.toNat IntKind.u64.bits))else bif op==10 then IntKind.u64.wrap (a*b)else
  bif op==11 then(bif b==0 then 0 else IntKind.u64.wrap (a.tdiv b))else bif op==12 then b2i (decide (a<b))else b2i (a==b)
abbrev rg(R:List Int)(k:Int):Int:=R.getD k.toNat 0
def oe(R:List Int)(i:HI):Int:=IntKind.u64.wrap (rg R i.ra+i.imm)
def hdo(i:HI)(m:HM):Int×HM:=
  bif i.op==0 then(0,⟨m.IF,m.words,m.pc+1⟩)else
  bif i.op==1 then(0,⟨m.IF.set i.rd.toNat i.imm,m.words,m.pc+1⟩)else
  bif i.op==14||i.op==15 then
    (bif decide ((m.words.length:Int)≤oe m.IF i)then(4,m)else
     bif i.op==14 then(0,⟨m.IF.set i.rd.toNat (m.words.getD (oe m.IF i).toNat 0),m.words,m.pc+1⟩)
     else(0,⟨m.IF,m.words.set (oe m.IF i).toNat (IntKind.u32.wrap (rg m.IF i.rb)),m.pc+1⟩))else
  bif i.op==16||i.op==17 then(0,⟨m.IF,m.words,bif(rg m.IF i.ra==0)==(i.op==16)then i.imm else m.pc+1⟩)else
  bif i.op==18 then(0,⟨m.IF,m.words,i.imm⟩)else
  bif i.op==19 then(1,m)else(0,⟨m.IF.set i.rd.toNat (eT i.op (rg m.IF i.ra) (rg m.IF i.rb)),m.words,m.pc+1⟩)
def Iu(C:List HI)(m:HM):Int×HM:=
  bif decide (m.pc<0)||decide ((C.length:Int)≤m.pc)then(2,m)else hdo (C.getD m.pc.toNat HI.zero) m
def jo(C:List HI):Nat→HM→(Int×Int)×HM
  |0,m=>((5,0),m)
  |f+1,m=>bif(Iu C m).1==0 then jo C f (Iu C m).2 else bif(Iu C m).1==1 then((1,(C.getD (Iu C m).2.pc.toNat HI.zero).imm),(Iu C m).2)else(((Iu C m).1,0),(Iu C m).2)
structure HGo(C:List HI)(k:Nat)(l:List HI)(R W:List Int)(M:HM):Prop where
  at_:C.drop k=l
  rl:R.length=16
  wl:W.length=256
  ends:∃f,jo C f ⟨R,W,(k:Int)⟩=((1,1),M)
section
variable {C l:List HI} {k:Nat} {R W:List Int} {M:HM} {i:HI}
theorem HGo.code(h:HGo C k (i::l) R W M):k<C.length∧C.getD k HI.zero=i∧C.drop (k+1)=l:=by
  have h1:=h.at_;have h2:k<C.length:=by
    by_cases hk:k<C.length
    · exact hk
    rw[List.drop_eq_nil_of_le (by omega)]at h1;cases h1
  rw[List.drop_eq_getElem_cons h2]at h1;injection h1 with h3 h4
  exact⟨h2,by rw[ax,ak h2,h3];rfl,h4⟩
theorem HGo.Iu(h:HGo C k (i::l) R W M):Iu C ⟨R,W,(k:Int)⟩=hdo i ⟨R,W,(k:Int)⟩:=by
  obtain⟨h1,h2,h3⟩:=h.code;unfold Ink.Iu;rw[show decide ((k:Int)<0)=false from aF (by omega),show decide ((C.length:Int)≤(k:Int))=false from aF (by omega)];show hdo (C.getD ((k:Int)).toNat HI.zero) _=_;rw[aS,h2]
theorem HGo.on{R' W':List Int}{j:Nat}{l':List HI}(h:HGo C k (i::l) R W M)(hd:hdo i ⟨R,W,(k:Int)⟩=(0,⟨R',W',(j:Int)⟩))(hr:R'.length=16)(hw:W'.length=256)(hl:C.drop j=l'):HGo C j l' R' W' M:=by
  refine⟨hl,hr,hw,?_⟩;obtain⟨f,hf⟩:=h.ends;cases f with
  |zero=>cases hf
  |succ f=>
    refine⟨f,?_⟩;unfold jo at hf;rw[h.Iu,hd]at hf;exact hf
theorem HGo.exit{imm:Int}(h:HGo C k (⟨19,0,0,0,imm⟩::l) R W M):imm=1∧M=⟨R,W,(k:Int)⟩:=by
  obtain⟨f,hf⟩:=h.ends;cases f with
  |zero=>cases hf
  |succ f=>
    unfold jo at hf;rw[h.Iu]at hf;have e:hdo ⟨19,0,0,0,imm⟩ ⟨R,W,(k:Int)⟩=(1,⟨R,W,(k:Int)⟩):=rfl;rw[e]at hf;dsimp only at hf;rw[show((1:Int)==0)=false from rfl,show((1:Int)==1)=true from rfl,aa,ac]at hf;have h2:(((1:Int),(C.getD ((k:Int)).toNat HI.zero).imm),(⟨R,W,(k:Int)⟩:HM))=(((1:Int),(1:Int)),M):=hf;rw[aS,h.code.2.1]at h2;injection h2 with h3 h4
    injection h3 with h5 h6
    exact⟨h6,h4.symm⟩
theorem da{R:List Int}{j:Nat}{v:Int}(hj:j<R.length):(R.set j v).getD j 0=v:=by
  rw[ax,List.getElem?_set_self hj];rfl
theorem cK{R:List Int}{i j:Nat}{v:Int}(h:i≠j):(R.set i v).getD j 0=R.getD j 0:=by
  rw[ax,List.getElem?_set_ne h,←ax]
def jZ(except:List Nat)(R R':List Int):Prop:=∀j,j∉except→R'.getD j 0=R.getD j 0
theorem jZ.refl(e:List Nat)(R:List Int):jZ e R R:=fun _ _=>rfl
theorem jZ.trans{e e':List Nat}{A B D:List Int}(h:jZ e A B)(h':jZ e' B D){e2:List Nat}(hs:∀x,x∈e∨x∈e'→x∈e2):jZ e2 A D:=fun j hj=>(h' j fun hx=>hj (hs j (Or.inr hx))).trans (h j fun hx=>hj (hs j (Or.inl hx)))
theorem jZ.set(R:List Int)(j:Nat)(v:Int){e:List Nat}(hj:j∈e):jZ e R (R.set j v):=fun i hi=>cK (fun h=>hi (h▸hj))
theorem HGo.li{rd:Nat}{v:Int}(h:HGo C k (⟨1,(rd:Int),0,0,v⟩::l) R W M):HGo C (k+1) l (R.set rd v) W M:=
  h.on rfl (by rw[aL,h.rl]) h.wl h.code.2.2
theorem HGo.op{op:Int}{rd ra rb:Nat}{v:Int}(h:HGo C k (⟨op,(rd:Int),(ra:Int),(rb:Int),0⟩::l) R W M)(h2:2≤op)(h13:op≤13)(hv:eT op (R.getD ra 0) (R.getD rb 0)=v):HGo C (k+1) l (R.set rd v) W M:=by
  refine h.on ?_ (by rw[aL,h.rl]) h.wl h.code.2.2;unfold hdo;show(bif op==0 then _ else bif op==1 then _ else bif op==14||op==15 then _ else bif op==16||op==17 then _ else bif op==18 then _ else bif op==19 then _ else _)=_;rw[show(op==0)=false by simp;omega,show(op==1)=false by simp;omega,show(op==14)=false by simp;omega,show(op==15)=false by simp;omega,show(op==16)=false by simp;omega,show(op==17)=false by simp;omega,show(op==18)=false by simp;omega,show(op==19)=false by simp;omega];show(0,(⟨R.set ((rd:Int)).toNat (eT op (R.getD ((ra:Int)).toNat 0) (R.getD ((rb:Int)).toNat 0)),W,(k:Int)+1⟩:HM))=_;rw[aS,aS,aS,hv]
  rfl
theorem HGo.mov{rd ra:Nat}(h:HGo C k (⟨2,(rd:Int),(ra:Int),0,0⟩::l) R W M):HGo C (k+1) l (R.set rd (R.getD ra 0)) W M:=
  HGo.op (rb:=0) h (by decide) (by decide) rfl
theorem HGo.ld{rd ra p:Nat}{im:Int}(h:HGo C k (⟨14,(rd:Int),(ra:Int),0,im⟩::l) R W M)(hp:IntKind.u64.wrap (R.getD ra 0+im)=(p:Int))(hp2:p<256):HGo C (k+1) l (R.set rd (W.getD p 0)) W M:=by
  refine h.on ?_ (by rw[aL,h.rl]) h.wl h.code.2.2;have e:oe R ⟨14,(rd:Int),(ra:Int),0,im⟩=(p:Int):=hp;unfold hdo;dsimp only;rw[e,show decide ((W.length:Int)≤(p:Int))=false from aF (by rw[h.wl];omega)]
  rfl
theorem HGo.st{ra rb p:Nat}{im v:Int}(h:HGo C k (⟨15,0,(ra:Int),(rb:Int),im⟩::l) R W M)(hp:IntKind.u64.wrap (R.getD ra 0+im)=(p:Int))(hp2:p<256)(hv:IntKind.u32.wrap (R.getD rb 0)=v):HGo C (k+1) l R (W.set p v) M:=by
  refine h.on ?_ h.rl (by rw[aL,h.wl]) h.code.2.2;have e:oe R ⟨15,0,(ra:Int),(rb:Int),im⟩=(p:Int):=hp;unfold hdo;dsimp only;rw[e,show decide ((W.length:Int)≤(p:Int))=false from aF (by rw[h.wl];omega)];subst hv
  rfl
theorem HGo.bnez{ra j:Nat}{l':List HI}(h:HGo C k (⟨17,0,(ra:Int),0,(j:Int)⟩::l) R W M)(hl:C.drop j=l'):R.getD ra 0=0∧HGo C (k+1) l R W M∨R.getD ra 0≠0∧HGo C j l' R W M:=by
  by_cases h0:R.getD ra 0=0
  · refine Or.inl ⟨h0,h.on ?_ h.rl h.wl h.code.2.2⟩
    show(0,(⟨R,W,bif(R.getD ((ra:Int)).toNat 0==0)==false then(j:Int)else(k:Int)+1⟩:HM))=_;rw[aS,h0];rfl
  refine Or.inr ⟨h0,h.on ?_ h.rl h.wl hl⟩;show(0,(⟨R,W,bif(R.getD ((ra:Int)).toNat 0==0)==false then(j:Int)else(k:Int)+1⟩:HM))=_;rw[aS,show(R.getD ra 0==0)=false by simp;simpa using h0];rfl
theorem HGo.beqz{ra j:Nat}{l':List HI}(h:HGo C k (⟨16,0,(ra:Int),0,(j:Int)⟩::l) R W M)(hl:C.drop j=l'):R.getD ra 0≠0∧HGo C (k+1) l R W M∨R.getD ra 0=0∧HGo C j l' R W M:=by
  by_cases h0:R.getD ra 0=0
  · refine Or.inr ⟨h0,h.on ?_ h.rl h.wl hl⟩
    show(0,(⟨R,W,bif(R.getD ((ra:Int)).toNat 0==0)==true then(j:Int)else(k:Int)+1⟩:HM))=_;rw[aS,h0];rfl
  refine Or.inl ⟨h0,h.on ?_ h.rl h.wl h.code.2.2⟩;show(0,(⟨R,W,bif(R.getD ((ra:Int)).toNat 0==0)==true then(j:Int)else(k:Int)+1⟩:HM))=_;rw[aS,show(R.getD ra 0==0)=false by simp;simpa using h0];rfl
end
def ka(op:Int):Int:=bif op==16 then 3 else bif op==18 then 5 else bif op==19 then 6 else bif op==20 then 7 else bif op==21 then 8 else bif op==22 then 9 else bif op==23 then 10 else 4
def Hx(r:Int):List HI:=[⟨1,12,0,0,4294967295⟩,⟨5,r,r,12,0⟩]
def uP(op:Int):Bool:=op==18||op==19||op==20||op==22
def JI(op rd a b:Int):List HI:=⟨ka op,rd,a,b,0⟩::(bif uP op then[]else Hx rd)
def sG(r up:Int):List HI:=[⟨1,12,0,0,up⟩,⟨8,r,r,12,0⟩,⟨6,10,10,r,0⟩]
def gV(rd r:Int):List HI:=[⟨1,12,0,0,31⟩,⟨9,rd,r,12,0⟩]
def gI:List HI:=⟨5,11,11,12,0⟩::(gV 11 11++sG 11 3)
def fZ(op a b:Int):List HI:=JI op 9 a b++(⟨13,10,9,15,0⟩::(gV 11 9++sG 11 1))
def jQ(a b:Int):List HI:=⟨12,11,9,a,0⟩::(sG 11 2++(⟨7,11,a,9,0⟩::⟨7,12,b,9,0⟩::gI))
def jP(a b:Int):List HI:=⟨12,11,a,b,0⟩::(sG 11 2++(⟨7,11,a,b,0⟩::⟨7,12,a,9,0⟩::gI))
def la(op a b:Int):List HI:=fZ op a b++(bif op==16 then jQ a b else bif op==17||op==25 then jP a b else[])
def sH(op x y:Int):Int:=bif op==25 then IntKind.u32.wrap (x - y)else(iq op x y).1
section
variable {C l:List HI} {k:Nat} {R W:List Int} {M:HM}
theorem HGo.low{rd:Nat}{z:Int}(h:HGo C k (Hx rd++l) R W M)(hz:R.getD rd 0=IntKind.u64.wrap z)(hr:rd<12):∃k' R',HGo C k' l R' W M∧R'.getD rd 0=IntKind.u32.wrap z∧jZ [rd,12] R R':=by
 have h1:=HGo.li (rd:=12) h;have hl:=h1.rl;have e1:(R.set 12 4294967295).getD rd 0=IntKind.u64.wrap z:=by rw[cK (by omega),hz]
 have e2:(R.set 12 4294967295).getD 12 0=4294967295:=da (by rw[h.rl];decide);have h2:=HGo.op (rd:=rd) (ra:=rd) (rb:=12) (v:=IntKind.u32.wrap z) h1 (by decide) (by decide) (by rw[e1,e2];exact low64 z);refine⟨_,_,h2,da (by rw[hl];omega),?_⟩;exact(jZ.set R 12 _ (e:=[rd,12]) (by simp)).trans (jZ.set _ rd _ (e:=[rd,12]) (by simp)) (by intro x hx;simpa using hx)
theorem qI{op:Int}{x y:Nat}(hop:(16≤op∧op≤23)∨op=25)(hx:x<4294967296)(hy:y<4294967296):∃r:Nat,sH op x y=r∧r<4294967296:=by
 have hw:∀z:Int,∃r:Nat,IntKind.u32.wrap z=r∧r<4294967296:=fun z=>by
  rw[aE];exact⟨(z%4294967296).toNat,by omega,by omega⟩
 have h:op=16∨op=17∨op=18∨op=19∨op=20∨op=21∨op=22∨op=23∨op=25:=by omega
 rcases h with rfl|rfl|rfl|rfl|rfl|rfl|rfl|rfl|rfl
 ·exact hw _
 ·exact hw _
 ·exact⟨x&&&y,EK hx hy,qH hx⟩
 ·exact⟨x|||y,or32 hx hy,Nat.or_lt_two_pow (n:=32) hx hy⟩
 ·exact⟨x^^^y,zZ hx hy,ix hx hy⟩
 ·show∃r:Nat,gZ (x:Int) (y:Int) true=r∧_;unfold gZ;cases decide (32≤(y:Int))with
  |true=>exact⟨0,rfl,by decide⟩
  |false=>exact hw _
 ·show∃r:Nat,gZ (x:Int) (y:Int) false=r∧_;unfold gZ;cases decide (32≤(y:Int))with
  |true=>exact⟨0,rfl,by decide⟩
  |false=>
   refine⟨x/2^(min y IntKind.u32.bits),?_,Nat.lt_of_le_of_lt (Nat.div_le_self _ _) hx⟩;show(x:Int).fdiv (2^(min ((y:Int)).toNat IntKind.u32.bits))=_;rw[aS,Int.fdiv_eq_ediv_of_nonneg _ (by exact Int.le_of_lt (Int.pow_pos (by decide)))];simp
 ·exact hw _
 exact hw _
theorem shl64{x y:Nat}:IntKind.u32.wrap ((x:Int)*2^(min ((y:Int)).toNat IntKind.u64.bits))=gZ (x:Int) (y:Int) true:=by
 unfold gZ;rw[aS];by_cases h:32≤y
 ·rw[aG (show 32≤(y:Int) by omega)];show _=(0:Int);obtain⟨m,hm⟩:∃m,min y IntKind.u64.bits=32+m:=⟨min y IntKind.u64.bits - 32,by show min y 64=32+(min y 64 - 32);omega⟩;rw[hm,Int.pow_add,←Int.mul_assoc,Int.mul_comm (x:Int),Int.mul_assoc,aE];exact Int.mul_emod_right _ _
 rw[aF (show¬32≤(y:Int) by omega)];show _=IntKind.u32.wrap ((x:Int)*2^(min y IntKind.u32.bits));rw[show min y IntKind.u64.bits=y by show min y 64=y;omega,show min y IntKind.u32.bits=y by show min y 32=y;omega]
theorem shr64{x y:Nat}(hx:x<4294967296):(x:Int).fdiv (2^(min ((y:Int)).toNat IntKind.u64.bits))=gZ (x:Int) (y:Int) false:=by
 unfold gZ;rw[aS];by_cases h:32≤y
 ·rw[aG (show 32≤(y:Int) by omega)];show _=(0:Int);obtain⟨m,hm⟩:∃m,min y IntKind.u64.bits=32+m:=⟨min y IntKind.u64.bits - 32,by show min y 64=32+(min y 64 - 32);omega⟩;rw[hm,Int.fdiv_eq_ediv_of_nonneg _ (by exact Int.le_of_lt (Int.pow_pos (by decide)))];refine Int.ediv_eq_zero_of_lt (by omega) ?_;have h1:(2:Nat)^32≤2^(32+m):=Nat.pow_le_pow_right (by decide) (by omega);have h2:((2:Nat)^(32+m):Nat)=((2:Int)^(32+m)):=by simp
  rw[←h2];have:(4294967296:Nat)≤2^(32+m):=h1;omega
 rw[aF (show¬32≤(y:Int) by omega)];show _=(x:Int).fdiv (2^(min y IntKind.u32.bits));rw[show min y IntKind.u64.bits=y by show min y 64=y;omega,show min y IntKind.u32.bits=y by show min y 32=y;omega]
theorem HGo.alu{op:Int}{rd ra rb x y:Nat}(hop:(16≤op∧op≤23)∨op=25)(h:HGo C k (JI op rd ra rb++l) R W M)(hrd:rd<12)(hx:R.getD ra 0=x)(hy:R.getD rb 0=y)(hx2:x<4294967296)(hy2:y<4294967296):
  ∃k' R',HGo C k' l R' W M∧R'.getD rd 0=sH op x y∧jZ [rd,12] R R':=by
 have hl:=h.rl;have hlow:∀(o:Int) (z:Int),2≤o→o≤13→HGo C k (⟨o,(rd:Int),(ra:Int),(rb:Int),0⟩::(Hx rd++l)) R W M→eT o x y=IntKind.u64.wrap z→
   ∃k' R',HGo C k' l R' W M∧R'.getD rd 0=IntKind.u32.wrap z∧jZ [rd,12] R R':=fun o z h1 h2 g hz=>by
  have g1:=HGo.op g h1 h2 (v:=IntKind.u64.wrap z) (by rw[hx,hy,hz]);obtain⟨k',R',g2,g3,g4⟩:=g1.low (da (by omega)) hrd;exact⟨k',R',g2,g3,(jZ.set R rd _ (e:=[rd,12]) (by simp)).trans g4 (by intro x hx;simpa using hx)⟩
 have hno:∀(o z:Int),2≤o→o≤13→HGo C k (⟨o,(rd:Int),(ra:Int),(rb:Int),0⟩::l) R W M→eT o x y=z→∃k' R',HGo C k' l R' W M∧R'.getD rd 0=z∧jZ [rd,12] R R':=fun o z h1 h2 g hz=>
  ⟨_,_,HGo.op g h1 h2 (v:=z) (by rw[hx,hy,hz]),da (by omega),jZ.set R rd _ (by simp)⟩
 have h8:op=16∨op=17∨op=18∨op=19∨op=20∨op=21∨op=22∨op=23∨op=25:=by omega
 rcases h8 with rfl|rfl|rfl|rfl|rfl|rfl|rfl|rfl|rfl
 ·exact hlow 3 _ (by decide) (by decide) h rfl
 ·exact hlow 4 _ (by decide) (by decide) h rfl
 ·exact hno 5 _ (by decide) (by decide) h (show bits .and .u64 (x:Int) (y:Int)=bits .and .u32 (x:Int) (y:Int) by rw[EJ (by omega) (by omega),EK hx2 hy2])
 ·exact hno 6 _ (by decide) (by decide) h (show bits .or .u64 (x:Int) (y:Int)=bits .or .u32 (x:Int) (y:Int) by rw[or64 (by omega) (by omega),or32 hx2 hy2])
 ·exact hno 7 _ (by decide) (by decide) h (show bits .xor .u64 (x:Int) (y:Int)=bits .xor .u32 (x:Int) (y:Int) by rw[zY (by omega) (by omega),zZ hx2 hy2])
 ·obtain⟨k',R',g1,g2,g3⟩:=hlow 8 _ (by decide) (by decide) h rfl;exact⟨k',R',g1,g2.trans shl64,g3⟩
 ·exact hno 9 _ (by decide) (by decide) h (shr64 hx2)
 ·exact hlow 10 _ (by decide) (by decide) h rfl
 exact hlow 4 _ (by decide) (by decide) h rfl
theorem zN:∀(a b c d:Bool),bits .or .u64 (b2i a) (IntKind.u64.wrap (b2i b*2^(min (Int.toNat 1) IntKind.u64.bits)))=b2i a+2*b2i b∧bits .or .u64 (b2i a+2*b2i b) (IntKind.u64.wrap (b2i c*2^(min (Int.toNat 2) IntKind.u64.bits)))=b2i a+2*b2i b+4*b2i c∧
  bits .or .u64 (b2i a+2*b2i b+4*b2i c) (IntKind.u64.wrap (b2i d*2^(min (Int.toNat 3) IntKind.u64.bits)))=b2i a+2*b2i b+4*b2i c+8*b2i d:=by decide+kernel
theorem HGo.bit{up s c s':Int}(h:HGo C k (sG 11 up++l) R W M)(hs:R.getD 10 0=s)(hc:R.getD 11 0=c)(h':bits .or .u64 s (IntKind.u64.wrap (c*2^(min up.toNat IntKind.u64.bits)))=s'):
  ∃k' R',HGo C k' l R' W M∧R'.getD 10 0=s'∧jZ [10,11,12] R R':=by
 have hl:=h.rl;have h1:=HGo.li (rd:=12) h;have h2:=HGo.op (rd:=11) (ra:=11) (rb:=12) (v:=IntKind.u64.wrap (c*2^(min up.toNat IntKind.u64.bits))) h1 (by decide) (by decide) (by rw[cK (by decide),hc,da (by omega)];rfl);have h3:=HGo.op (rd:=10) (ra:=10) (rb:=11) (v:=s') h2 (by decide) (by decide) (by rw[cK (by decide),cK (by decide),hs,da (by rw[aL];omega)];exact h');refine⟨_,_,h3,da (by simp only[aL];omega),?_⟩;exact((jZ.set R 12 _ (e:=[10,11,12]) (by simp)).trans (jZ.set _ 11 _ (e:=[10,11,12]) (by simp)) (e2:=[10,11,12]) (by intro x hx;simpa using hx)).trans (jZ.set _ 10 _ (e:=[10,11,12]) (by simp)) (by intro x hx;simpa using hx)
theorem HGo.signed{rd r x:Nat}(h:HGo C k (gV rd r++l) R W M)(hrd:rd<12)(hr:r<12)(hx:R.getD r 0=x)(hx2:x<4294967296):∃k' R',HGo C k' l R' W M∧R'.getD rd 0=b2i (decide (2147483648≤x))∧jZ [rd,12] R R':=by
 have hl:=h.rl;have h1:=HGo.li (rd:=12) h;have h2:=HGo.op (rd:=rd) (ra:=r) (rb:=12) (v:=b2i (decide (2147483648≤x))) h1 (by decide) (by decide) (by rw[cK (by omega),hx,da (by omega)];exact shr31 hx2);refine⟨_,_,h2,da (by rw[aL];omega),?_⟩;exact(jZ.set R 12 _ (e:=[rd,12]) (by simp)).trans (jZ.set _ rd _ (e:=[rd,12]) (by simp)) (by intro x hx;simpa using hx)
theorem iY{r:Nat}(hr:r<4294967296):dG (r:Int)=b2i ((r:Int)==0)+2*b2i (decide (2147483648≤r)):=by
 unfold dG;rw[top32 hr];cases(r:Int)==0<;>cases decide (2147483648≤r)<;>rfl
theorem rY(a b r o:Int)(p q c:Bool):jh a b r (b2i p+2*b2i q) c o=b2i p+2*b2i q+4*b2i c+8*b2i (o !=0):=by
 unfold jh;cases o !=0<;>cases p<;>cases q<;>cases c<;>rfl
theorem HGo.flagB{op:Int}{ra rb x y:Nat}(hop:(16≤op∧op≤23)∨op=25)(h:HGo C k (fZ op ra rb++l) R W M)(h15:R.getD 15 0=0)(hx:R.getD ra 0=x)(hy:R.getD rb 0=y)(hx2:x<4294967296)(hy2:y<4294967296):
  ∃k' R' r,HGo C k' l R' W M∧sH op x y=(r:Nat)∧r<4294967296∧R'.getD 9 0=(r:Int)∧R'.getD 10 0=b2i ((r:Int)==0)+2*b2i (decide (2147483648≤r))∧jZ [9,10,11,12] R R':=by
 obtain⟨r,hr,hr2⟩:=qI hop hx2 hy2;have h:HGo C k (JI op 9 ra rb++(⟨13,10,9,15,0⟩::(gV 11 9++(sG 11 1++l)))) R W M:=by
  have:fZ op ra rb++l=JI op 9 ra rb++(⟨13,10,9,15,0⟩::(gV 11 9++(sG 11 1++l))):=by unfold fZ;simp only[aq,aP]
  rwa[this]at h
 obtain⟨k1,R1,g1,g2,g3⟩:=HGo.alu (rd:=9) hop h (by decide) hx hy hx2 hy2;rw[hr]at g2;have g4:=HGo.op (rd:=10) (ra:=9) (rb:=15) (v:=b2i ((r:Int)==0)) g1 (by decide) (by decide) (by rw[g2,g3 15 (by decide),h15];rfl);obtain⟨k2,R2,p1,p2,p3⟩:=HGo.signed (rd:=11) (r:=9) (x:=r) g4 (by decide) (by decide) (by rw[cK (by decide),g2]) hr2;have e10:R2.getD 10 0=b2i ((r:Int)==0):=by rw[p3 10 (by decide),da (by rw[g1.rl];decide)]
 obtain⟨k3,R3,q1,q2,q3⟩:=HGo.bit p1 e10 p2 (zN ((r:Int)==0) (decide (2147483648≤r)) false false).1;have e9:R3.getD 9 0=(r:Int):=by rw[q3 9 (by decide),p3 9 (by decide),cK (by decide),g2]
 refine⟨k3,R3,r,q1,hr,hr2,e9,q2,?_⟩;intro j hj;simp only[aM,a9,or_false,not_or]at hj;rw[q3 j (by simp;omega),p3 j (by simp;omega),cK (by omega),g3 j (by simp;omega)]
theorem HGo.flagE{p q c:Bool}{u v:Nat}(h:HGo C k (gI++l) R W M)(h10:R.getD 10 0=b2i p+2*b2i q+4*b2i c)(h11:R.getD 11 0=u)(h12:R.getD 12 0=v)(hu:u<4294967296)(hv:v<4294967296):
  ∃k' R',HGo C k' l R' W M∧R'.getD 10 0=b2i p+2*b2i q+4*b2i c+8*b2i (decide (2147483648≤u&&&v))∧jZ [10,11,12] R R':=by
 have g1:=HGo.op (rd:=11) (ra:=11) (rb:=12) (v:=((u&&&v:Nat):Int)) (l:=gV 11 11++(sG 11 3++l)) (by
  have:gI++l=⟨5,11,11,12,0⟩::(gV 11 11++(sG 11 3++l)):=by unfold gI;simp only[aq,aP]
  rw[this]at h;exact h) (by decide) (by decide) (by rw[h11,h12];exact EJ (by omega) (by omega))
 obtain⟨k2,R2,p1,p2,p3⟩:=HGo.signed (rd:=11) (r:=11) (x:=u&&&v) g1 (by decide) (by decide) (da (by rw[h.rl];decide)) (qH hu);obtain⟨k3,R3,q1,q2,q3⟩:=HGo.bit p1 (show R2.getD 10 0=_ by rw[p3 10 (by decide),cK (by decide),h10]) p2 (zN p q c (decide (2147483648≤u&&&v))).2.2;refine⟨k3,R3,q1,q2,?_⟩;intro j hj;simp only[aM,a9,or_false,not_or]at hj;rw[q3 j (by simp;omega),p3 j (by simp;omega),cK (by omega)]
theorem HGo.flag{op:Int}{ra rb x y:Nat}(hop:(16≤op∧op≤23)∨op=25)(h:HGo C k (la op ra rb++l) R W M)(ha:ra<9)(hb:rb<9)(h15:R.getD 15 0=0)(hx:R.getD ra 0=x)(hy:R.getD rb 0=y)(hx2:x<4294967296)(hy2:y<4294967296):
  ∃k' R',HGo C k' l R' W M∧R'.getD 10 0=(iq op x y).2.1∧jZ [9,10,11,12] R R':=by
 have h:HGo C k (fZ op ra rb++((bif op==16 then jQ ra rb else bif op==17||op==25 then jP ra rb else[])++l)) R W M:=by
  have:la op ra rb++l=fZ op ra rb++((bif op==16 then jQ ra rb else bif op==17||op==25 then jP ra rb else[])++l):=by unfold la;rw[aq]
  rwa[this]at h
 obtain⟨k1,R1,r,g1,g2,g3,g4,g5,g6⟩:=HGo.flagB hop h h15 hx hy hx2 hy2;have ex:R1.getD ra 0=x:=by rw[g6 ra (by simp;omega),hx]
 have ey:R1.getD rb 0=y:=by rw[g6 rb (by simp;omega),hy]
 have hsub:∀op',sH op' x y=(r:Nat)→sH op' x y=IntKind.u32.wrap ((x:Int) - y)→HGo C k1 (jP ra rb++l) R1 W M→∃k' R',HGo C k' l R' W M∧R'.getD 10 0=jR x y∧jZ [9,10,11,12] R R':=fun op' e1 e2 g=>by
  have g:HGo C k1 (⟨12,11,(ra:Int),(rb:Int),0⟩::(sG 11 2++(⟨7,11,(ra:Int),(rb:Int),0⟩::⟨7,12,(ra:Int),9,0⟩::(gI++l)))) R1 W M:=by
   have:jP ra rb++l=⟨12,11,(ra:Int),(rb:Int),0⟩::(sG 11 2++(⟨7,11,(ra:Int),(rb:Int),0⟩::⟨7,12,(ra:Int),9,0⟩::(gI++l))):=by unfold jP;simp only[aq,aP]
   rwa[this]at g
  have a1:=HGo.op (rd:=11) (ra:=ra) (rb:=rb) (v:=b2i (decide ((x:Int)<y))) g (by decide) (by decide) (by rw[ex,ey];rfl);obtain⟨k2,R2,b1,b2,b3⟩:=HGo.bit a1 (show(R1.set 11 _).getD 10 0=_ by rw[cK (by decide),g5]) (da (by rw[g1.rl];decide)) (zN ((r:Int)==0) (decide (2147483648≤r)) (decide ((x:Int)<y)) false).2.1;have c1:=HGo.op (rd:=11) (ra:=ra) (rb:=rb) (v:=((x^^^y:Nat):Int)) b1 (by decide) (by decide) (by rw[b3 ra (by simp;omega),b3 rb (by simp;omega),cK (by omega),cK (by omega),ex,ey];exact zY (by omega) (by omega));have c2:=HGo.op (rd:=12) (ra:=ra) (rb:=9) (v:=((x^^^r:Nat):Int)) c1 (by decide) (by decide) (by rw[cK (by omega),cK (by decide),b3 ra (by simp;omega),b3 9 (by decide),cK (by omega),cK (by decide),ex,g4];exact zY (by omega) (by omega));obtain⟨k3,R3,d1,d2,d3⟩:=HGo.flagE (p:=(r:Int)==0) (q:=decide (2147483648≤r)) (c:=decide ((x:Int)<y)) c2 (by rw[cK (by decide),cK (by decide),b2]) (by rw[cK (by decide)];exact da (by rw[b1.rl];decide)) (da (by rw[aL,b1.rl];decide)) (ix hx2 hy2) (ix hx2 g3);refine⟨k3,R3,d1,?_,?_⟩
  ·rw[d2];unfold jR;rw[←e2,e1,iY g3,rY,zZ hx2 hy2,zZ hx2 g3,EK (ix hx2 hy2) (ix hx2 g3),top32 (qH (ix hx2 hy2))]
  intro j hj;simp only[aM,a9,or_false,not_or]at hj;rw[d3 j (by simp;omega),cK (by omega),cK (by omega),b3 j (by simp;omega),cK (by omega),g6 j (by simp;omega)]
 have hno:∀op',sH op' x y=(r:Nat)→HGo C k1 l R1 W M→(iq op' x y).2.1=dG (sH op' x y)→∃k' R',HGo C k' l R' W M∧R'.getD 10 0=(iq op' x y).2.1∧jZ [9,10,11,12] R R':=fun op' e1 g e2=>
  ⟨k1,R1,g,by rw[e2,e1,iY g3,g5],g6⟩
 have h8:op=16∨op=17∨op=18∨op=19∨op=20∨op=21∨op=22∨op=23∨op=25:=by omega
 rcases h8 with rfl|rfl|rfl|rfl|rfl|rfl|rfl|rfl|rfl
 ·have g:HGo C k1 (⟨12,11,9,(ra:Int),0⟩::(sG 11 2++(⟨7,11,(ra:Int),9,0⟩::⟨7,12,(rb:Int),9,0⟩::(gI++l)))) R1 W M:=by
   have:jQ ra rb++l=⟨12,11,9,(ra:Int),0⟩::(sG 11 2++(⟨7,11,(ra:Int),9,0⟩::⟨7,12,(rb:Int),9,0⟩::(gI++l))):=by unfold jQ;simp only[aq,aP]
   have g1:HGo C k1 (jQ ra rb++l) R1 W M:=g1;rwa[this]at g1
  have a1:=HGo.op (rd:=11) (ra:=9) (rb:=ra) (v:=b2i (decide ((r:Int)<x))) g (by decide) (by decide) (by rw[ex,g4];rfl);obtain⟨k2,R2,b1,b2,b3⟩:=HGo.bit a1 (show(R1.set 11 _).getD 10 0=_ by rw[cK (by decide),g5]) (da (by rw[g1.rl];decide)) (zN ((r:Int)==0) (decide (2147483648≤r)) (decide ((r:Int)<x)) false).2.1;have c1:=HGo.op (rd:=11) (ra:=ra) (rb:=9) (v:=((x^^^r:Nat):Int)) b1 (by decide) (by decide) (by rw[b3 ra (by simp;omega),b3 9 (by decide),cK (by omega),cK (by decide),ex,g4];exact zY (by omega) (by omega));have c2:=HGo.op (rd:=12) (ra:=rb) (rb:=9) (v:=((y^^^r:Nat):Int)) c1 (by decide) (by decide) (by rw[cK (by omega),cK (by decide),b3 rb (by simp;omega),b3 9 (by decide),cK (by omega),cK (by decide),ey,g4];exact zY (by omega) (by omega));obtain⟨k3,R3,d1,d2,d3⟩:=HGo.flagE (p:=(r:Int)==0) (q:=decide (2147483648≤r)) (c:=decide ((r:Int)<x)) c2 (by rw[cK (by decide),cK (by decide),b2]) (by rw[cK (by decide)];exact da (by rw[b1.rl];decide)) (da (by rw[aL,b1.rl];decide)) (ix hx2 g3) (ix hy2 g3);refine⟨k3,R3,d1,?_,?_⟩
  ·rw[d2];show _=me x y;unfold me;have e2:IntKind.u32.wrap ((x:Int)+y)=(r:Int):=g2;rw[e2,iY g3,rY,zZ hx2 g3,zZ hy2 g3,EK (ix hx2 g3) (ix hy2 g3),top32 (qH (ix hx2 g3))]
  intro j hj;simp only[aM,a9,or_false,not_or]at hj;rw[d3 j (by simp;omega),cK (by omega),cK (by omega),b3 j (by simp;omega),cK (by omega),g6 j (by simp;omega)]
 ·exact hsub 17 g2 rfl g1
 ·exact hno 18 g2 g1 rfl
 ·exact hno 19 g2 g1 rfl
 ·exact hno 20 g2 g1 rfl
 ·exact hno 21 g2 g1 rfl
 ·exact hno 22 g2 g1 rfl
 ·exact hno 23 g2 g1 rfl
 exact hsub 25 g2 rfl g1
end
theorem Cw{w0:World}{S:List Nat}{cs:List bJ}{e sz n c b:Nat}{ad:Addr}{xs vs:List Value}(hc:Has cs (slv e sz (some ad) n c xs))(hv:∀j v,vs[j]? =some v→xs[b+j]? =some v):∀w,Inv w0 S cs w→cells (eU (ad.add b) 0 vs) w:=fun w hi=>
 ke fun j v hj=>by
  rw[Nat.add_zero];exact(hi.rd hc).at_ ad rfl (b+j) v (hv j v hj)
end Go.Ink
namespace Go.Proofs.YtomjgmbccamgiaaGreatDoor
open Go.RowKit Go.Ink Go.Proofs.Tryz
attribute [local irreducible] OpY bW
theorem EG(A A2:Option Addr)(c c2:Nat)(xs ys:List Int)(hx:u8s xs)(hy:u8s ys)(w:World)(h:Rd w .u8 A xs.length c xs)(h2:Rd w .u8 A2 ys.length c2 ys):
  Ctr prog 140 [.slice A xs.length c,.slice A2 ys.length c2] w [] (fun v cs=>v= .bool (xs==ys)∧cs=[]):=by
 refine bL func140 rfl ntmps140 rfl (Inv.start w) ?_;refine Z_8 ?_;refine jC (fun w hi=>mX (h.IB hi)) (fun hrd6=>?_);refine dU (mV rfl rfl rfl Zv0 hrd6) (fun w hi=>RdV.IT (h.IB hi)) rfl ?_;refine ZA ?_;refine jC (fun w hi=>mX (h2.IB hi)) (fun hrd8=>?_);refine dU (mV rfl rfl rfl Zv0 hrd8) (fun w hi=>RdV.IT (h2.IB hi)) rfl ?_;refine Zy (yz rfl (Zv rfl) (Zv rfl) (Fy hx hy)) ?_;refine Z_4 ?_;refine Zra ?_;exact⟨rfl,rfl⟩
end Go.Proofs.YtomjgmbccamgiaaGreatDoor
