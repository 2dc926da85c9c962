/- Lemmas. -/
import Derived.Test.YtakodpimdalajaaGreatDoorQaa
import Derived.Test.YtakodpimdalajaaGreatDoorQab
import Derived.Test.YtakodpimdalajaaGreatDoorQaf
import Derived.Test.YtakodpimdalajaaGreatDoorQag
set_option linter.unusedSimpArgs false
set_option linter.unusedVariables false
set_option maxRecDepth 100000
set_option maxHeartbeats 4000000
namespace Go.Ink
open Go.RowKit
end Go.Ink
namespace Go.Proofs.YtakodpimdalajaaGreatDoor
open Go.RowKit Go.Ink Go.Proofs.Tryz
attribute [local irreducible] OpY bU
end Go.Proofs.YtakodpimdalajaaGreatDoor
namespace Go.Ink
open Go.RowKit
structure AskR where
 n:Int
 v:Int
 At:Option Addr
 ct:Nat
 ts:List Int
 raw:Bool
 op:Int
 nn:Int
def AskR.cells(a:AskR):List Value:=[.int .i64 a.n,.int .u32 a.v,.slice a.At a.ts.length a.ct,.bool a.raw,.int .i64 a.op,.int .u32 a.nn]
structure AskR.ok(W:World)(a:AskR):Prop where
 v:u32 a.v
 nn:u32 a.nn
 rd:Rd W .u32 a.At a.ts.length a.ct a.ts
 ts:∀x,x∈a.ts→u32 x
end Go.Ink
namespace Go.Proofs.YtakodpimdalajaaGreatDoor
open Go.RowKit Go.Ink Go.Proofs.Tryz
attribute [local irreducible] OpY bU
end Go.Proofs.YtakodpimdalajaaGreatDoor
namespace Go.Ink
open Go.RowKit
end Go.Ink
namespace Go.Proofs.YtakodpimdalajaaGreatDoor
open Go.RowKit Go.Ink Go.Proofs.Tryz
attribute [local irreducible] OpY bU
end Go.Proofs.YtakodpimdalajaaGreatDoor
namespace Go.Ink
open Go.RowKit
section
variable {n:Nat} {op nn:Int} {s:St} {U:Mmu} {d:Dev}
end
theorem xB{W:World}{k:IntKind}{A:Option Addr}{c:Nat}{b:List Int}(h:Rd W k A b.length c b)(m:Nat):Rd W k A (b.take m).length c (b.take m):=by
 refine⟨by simp[ints],?_,h.max,fun e=>?_,fun ad e j u hu=>h.at_ ad e j u ?_⟩
 ·have:=h.cap;rw[aF];omega
 ·have:=h.nil e;rw[aF];omega
 unfold ints at hu⊢;rw[aZ]at hu⊢;rw[List.getElem?_take]at hu;by_cases hj:j<m
 ·simpa[hj]using hu
 simp[hj]at hu
end Go.Ink
namespace Go.Proofs.YtakodpimdalajaaGreatDoor
open Go.RowKit Go.Ink Go.Proofs.Tryz
attribute [local irreducible] OpY bU
end Go.Proofs.YtakodpimdalajaaGreatDoor
namespace Go.Ink
open Go.RowKit
end Go.Ink
namespace Go.Proofs.YtakodpimdalajaaGreatDoor
open Go.RowKit Go.Ink Go.Proofs.Tryz
attribute [local irreducible] OpY bU
end Go.Proofs.YtakodpimdalajaaGreatDoor
namespace Go.Ink
open Go.RowKit
section
variable {n:Nat} {U:Mmu} {s:Sp}
end
section
variable {n:Nat} {U:Mmu} {s:Sp} {d:Dev}
theorem zO:iw (List.replicate 64 false) 64=[]:=by rfl
end
def xk:List Int:=[0,1,28,2,29,14,24,3,30,22,20,15,25,17,4,8,31,27,13,23,21,19,16,7,26,12,18,6,11,5,10,9]
def uK(b:Nat):Nat→Nat→Option Nat
 |_,0=>none
 |k,m+1=>bif b/2^k%2==1 then some k else uK b (k+1) m
def nR(b:Nat):Option Nat:=uK b 0 8
def tzAnd(x:Int):Int:=bits .and .u32 x (IntKind.u32.wrap (0 - x))
def tzMul(x:Int):Int:=IntKind.u32.wrap (tzAnd x*125613361)
def BD(x:Int):Int:=(tzMul x).fdiv (2^(min (Int.toNat 27) IntKind.u32.bits))
def tzSay(x:Nat):Bool:=x==0||match nR x with
 |some k=>decide (0≤BD x)&&decide (BD x<32)&&(xk[(BD x).toNat]? ==some (k:Int))&&decide (k<8)
 |none=>false
theorem tz_all:(List.range 256).all tzSay=true:=by decide+kernel
theorem BC{x:Nat}(h0:0<x)(h:x<256):∃k j:Nat,nR x=some k∧k<8∧BD x=(j:Int)∧j<32∧xk[j]? =some (k:Int):=by
 have h1:=bo.1 tz_all x (List.mem_range.2 h);have e:(x==0)=false:=by simp;omega
 unfold tzSay at h1;rw[e,Bool.false_or]at h1;cases hl:nR x with
 |none=>rw[hl]at h1;cases h1
 |some k=>
  rw[hl]at h1;simp only[az,ap,beq_iff_eq]at h1;obtain⟨⟨⟨h2,h3⟩,h4⟩,h5⟩:=h1;exact⟨k,(BD x).toNat,rfl,h5,by omega,by omega,h4⟩
theorem FV:nR 0=none:=by decide
def F8(d:Dev):Option Nat:=nR (bits .and .u32 d.Iu d.mask).toNat
def Dev.tick(d:Dev)(count:Int):Dev:=bif(d.timer==0)||decide (IntKind.u32.wrap count<d.timer)then d else{d with timer:=0,Iu:=bits .or .u32 d.Iu 1}
def told(s:St)(d:Dev):St:=match F8 d with
 |some k=>bif s.ie then s.Io ((16+k:Nat):Int) 0 else s
 |none=>s
structure GY where
 s:St
 place:Int
 runs:Bool
 u:Mmu
 d:Dev
def St.space(s:St):Sp:=⟨s.Il,s.If,s.root.toNat⟩
def rX(n:Nat)(s:St)(U:Mmu)(d:Dev):GY:=
 let q:=cR n U s.space s.pc.toNat 1
 bif q.1.2.Ie !=0 then⟨s.next.Io q.1.2.Ie q.1.2.addr,0,false,q.2,d⟩else⟨s,q.1.1,true,q.2,d⟩
def et(n:Nat)(s:St)(U:Mmu)(d:Dev):GY:=
 bif !s.right||s.halted then⟨s,0,false,U,d⟩else rX n (told s (d.tick s.count)) U (d.tick s.count)
def w6:List Int→Int
 |[]=>0
 |b::l=>b+256*w6 l
def dU(b:List Int):Option ((Int×Int)×Nat):=
 match b with
 |[]=>none
 |op::l=>bif cz op==0 then none else bif decide ((l.length:Int)+1<cz op)then none else some ((op,w6 (l.take ((cz op).toNat - 1))),(cz op).toNat)
def eI(n:Nat)(M:Mem)(p:Nat):Option ((Int×Int)×Nat):=
 bif decide (p/64<n)then dU (((M.data.drop (p/64*64)).take 64).drop (p%64))else none
def gl(op:Int):Bool:=(decide (32≤op)&&decide (op≤40))||(decide (64≤op)&&decide (op≤69))
def kz(op:Int)(r:Res)(Iq was:Int):Bool:=bif gl op||r.Jc||r.device||r.s.halted||r.H8.contains Iq then false else(r.s.pc/64==was/64)
def fe(n:Nat)(Iq:Nat):Nat→St→Nat→Mmu→Dev→St×Mmu×Dev
 |0,s,_,U,d=>(s,U,d)
 |k+1,s,p,U,d=>match eI n U.m p with
  |none=>(s.next.Io 1 0,U,d)
  |some ((op,nn),sz)=>
   let q:=sq n s op nn U d
   bif kz op q.1 Iq s.pc then fe n Iq k q.1.s ((p+sz)%4294967296) q.2.1 q.2.2 else(q.1.s,q.2.1,q.2.2)
def dg(n:Nat)(s:St)(U:Mmu)(d:Dev):St×Mmu×Dev:=
 let b:=et n s U d
 bif b.runs then fe n (b.place.toNat/64) 8 b.s b.place.toNat b.u b.d else(b.s,b.u,b.d)
def pP(n:Nat)(m:Int)(from_:Int):Nat→St×Mmu×Dev→St×Mmu×Dev
 |0,q=>q
 |k+1,q=>bif decide (0<m)&& !q.1.halted&&decide (IntKind.u64.wrap (q.1.count - from_)<m)then pP n m from_ k (dg n q.1 q.2.1 q.2.2)else q
theorem wU(k:IntKind)(x y:Int):bits .or k x y=bits .or k y x:=by
 unfold bits;simp only[BitVec.or_comm]
theorem uM:∀{l:List Int},u8s l→0≤w6 l∧w6 l<((256^l.length:Nat):Int)
 |[],_=>by simp[w6]
 |b::l,h=>by
  obtain⟨h1,h2⟩:=uM (l:=l) (fun x hx=>h x (bA _ hx));have hb:=h b (by simp);have e:((256^(b::l).length:Nat):Int)=256*((256^l.length:Nat):Int):=by
   rw[ai,Nat.pow_succ,Nat.mul_comm];exact Int.natCast_mul 256 _
  rw[e];unfold w6;omega
def SzIn(x:Int):Prop:=x=0∨x=1∨x=2∨x=5
theorem ja(op:Int):SzIn (cz op):=by
 unfold cz
 repeat (refine bM SzIn (Or.inr (Or.inr (Or.inl rfl))) ?_)
 refine bM SzIn (Or.inr (Or.inr (Or.inr rfl))) ?_;exact bM SzIn (Or.inl rfl) (Or.inr (Or.inl rfl))
theorem shl8_or{N b:Int}(h0:0≤N)(h1:N<16777216)(hb:0≤b∧b≤255):bits .or .u32 (IntKind.u32.wrap (N*2^(min (Int.toNat 8) IntKind.u32.bits))) b=b+256*N:=by
 have e:(N*2^(min (Int.toNat 8) IntKind.u32.bits):Int)=N*256:=rfl;rw[e,u32_wrap_id _ (by omega) (by omega),wU,show bits .or .u32 b (N*256)=b+N*256 from by apply u32_or8<;>omega];omega
end Go.Ink
namespace Go.Proofs.YtakodpimdalajaaGreatDoor
open Go.RowKit Go.Ink Go.Proofs.Tryz
attribute [local irreducible] OpY bU
def mG(w:World):Prop:=RdV w 1 (some ⟨0,0,none⟩) 32 32 (ints .u8 xk)
theorem mG.old{w0 w:World}{cs:List bJ}(h:mG w0)(hi:Inv w0 [] cs w):mG w:=RdV.Iy h hi
theorem EV{w0:World}{cs:List bJ}{j:Nat}{a:Int}(ht:mG w0)(h:xk[j]? =some a):∀w,Inv w0 [] cs w→cells [(⟨0,0+j*1,none⟩,.int .u8 a)] w:=by
 have h5:=fN (w0:=w0) (cs:=cs) ht (cZ h);rw[Addr.add_lit]at h5;exact h5
theorem tz_ok(x k:Nat)(h0:0<x)(h:x<256)(hk:nR x=some k)(w:World)(ht:mG w):Ctr prog 121 [.int .u32 (x:Int)] w [] (fun v cs=>v= .int .i64 (k:Int)∧cs=[]):=by
 obtain⟨k',j,e1,e5,e2,e3,e4⟩:=BC h0 h;obtain rfl:k'=k:=aG (e1.symm.trans hk);refine bL func121 rfl ntmps121 rfl (Inv.start w) ?_;refine gQ ?_;refine bV rfl ((beq_eq_false_iff_ne.2 (by omega))) ?_;refine Z_6 ?_;refine Zy (y_neg Zv0 rfl) ?_;refine ZA ?_;refine Zy (iH Zv0 Zv0 rfl) ?_;refine Zy (jw (Zv rfl) (Zv rfl) (by omega) (show _=(j:Int)from e2)) ?_;refine Zy (dw (j:=j) (sz:=1) (r:=0+j*1) rfl Zrf (Zv rfl) (Zv rfl) (fun _=>by omega) (fun _=>by omega) (by omega)) ?_;refine dX (bO Zrf Zv0) (EV ht e4) rfl ?_;refine Zy (ce rfl rfl Zv0 Zl) ?_;refine Z_4 ?_;refine Zra ?_;exact⟨rfl,rfl⟩
theorem AF(b x:Nat)(p m:Int)(hx:bits .and .u32 p m=(x:Int))(h256:x<256)(w:World)(h:(oW b p m).ok w)(ht:mG w):
  Ctr prog 90 [.pointer (some ⟨b,0,none⟩)] w [] (fun v cs=>v= .tuple #[.int .i64 (((nR x).getD 0:Nat):Int),.bool (nR x).isSome]∧cs=[]):=by
 refine bL func90 rfl ntmps90 rfl (Inv.start w) ?_;refine Z_7 ?_;refine bX ⟨fun j=>List.elem j [],[]⟩ Zk ?_;refine ZE 0 ?_;refine ZE 1 ?_;refine ZFe 2 0 ?_;refine eX 3 rfl Zk Zk Zk Zk (bO Zrf (Zv rfl)) (dL (by assumption) rfl) rfl ?_;refine ZE 4 ?_;refine ZE 5 ?_;refine ZFe 6 1 ?_;refine eX 7 rfl Zk Zk Zk Zk (bO Zrf (Zv rfl)) (dL (by assumption) rfl) rfl ?_;refine cN 8 rfl Zk Zk Zk (ng Zv0 Zv0 hx) rfl ?_;refine ZE 9 ?_;refine bN Zk ?_;refine Z_8 ?_;refine ZW ?_ ?_<;>intro hc2
 ·obtain rfl:x=0:=(by have:=jS hc2;omega);rw[FV];refine Z_8 ?_;refine ft (cs':=[]) (.inl rfl) Zu rfl rfl rfl ?_;exact⟨rfl,rfl⟩
 have hx0:0<x:=(by have:=ne_of_beq_false hc2;omega);obtain⟨k,j,e1, -⟩:=BC hx0 h256;have HT:=tz_ok x k hx0 h256 e1;rw[e1];refine Z_5 ?_;refine ZSe (fun w hi=>HT w (ht.old hi)) ?_;refine Z_5 ?_;refine ft (cs':=[]) (.inl rfl) Zu rfl rfl rfl ?_;exact⟨rfl,rfl⟩
theorem due_ok(b:Nat)(t count:Int)(w:World)(hi:Inv w (bK [zQ b t]) [zQ b t] w):
  Ctr prog 120 [.pointer (some ⟨b,0,none⟩),.int .u64 count] w [zQ b t] (fun v cs=>v= .bool (!((t==0)||decide (IntKind.u32.wrap count<t)))∧cs=[zQ b (bif(t==0)||decide (IntKind.u32.wrap count<t)then t else 0)]):=by
 refine bL func120 rfl ntmps120 rfl hi ?_;refine qo ?_;refine Zyn rfl rfl (ce rfl rfl (dQ rfl) rfl) ?_;refine Z_8 ?_;refine ZW ?_ ?_<;>intro hc1
 ·rw[hc1];refine Z_7 ?_;refine Zrb ([row _ _ _]) ?_;exact⟨rfl,rfl⟩
 rw[hc1];refine Z_7 ?_;refine ZL ?_;refine Z_8 ?_;refine Zrb ([row _ _ _]) ?_;exact⟨rfl,rfl⟩
theorem lines0:mW [0]=1:=by decide
theorem tick_ok(D:rZ)(bm:Nat)(X:jV)(d:Dev)(count:Int)(w:World)(hi:Inv w (bK (m7 D bm X d)) (m7 D bm X d) w):
  Ctr prog 89 [.pointer (some ⟨D.bs,0,none⟩),.int .u64 count] w (m7 D bm X d) (fun v cs=>v= .tuple #[]∧cs=m7 D bm X (d.tick count)):=by
 obtain⟨c,hc⟩:=Zgn (((d.timer==0)||decide (IntKind.u32.wrap count<d.timer)));have HD:=due_ok D.bti d.timer count;have HR:=fun A c w hi h=>nV D.bi d.Iu d.mask A c [0] (fun x hx=>by simp at hx;omega) w hi h
 rw[hc]at HD;rw[lines0]at HR;refine bL func89 rfl ntmps89 rfl hi ?_;refine Z_7 ?_;refine ZcM ([zQ D.bti d.timer]) (fun w hi hin=>HD w hin) ?_;refine Z_2 ?_;refine ZW ?_ ?_<;>intro hc0
 ·obtain rfl:c=false:=(by cases c with|false=>rfl|true=>cases hc0);have ht:d.tick count={d with timer:=0,Iu:=bits .or .u32 d.Iu 1}:=(by unfold Dev.tick;rw[hc];rfl);rw[ht];refine Z_5 ?_;refine dJ (bZ rfl rfl Zrf Zrf rfl rfl) rfl ?_;rintro _ _ ⟨b14,rfl,rfl⟩;refine ZcM ([oW D.bi d.Iu d.mask]) (fun w hi hin=>HR (some ⟨b14,0,none⟩) 1 w hin (fun w' hk=>hi.I2 Zi (show Has _ (slv 3 1 (some ⟨b14,0,none⟩) 1 1 (ints .i64 [0]))from Zh) hk)) ?_;refine Zn (bP (m7 D bm X {d with timer:=0,Iu:=bits .or .u32 d.Iu 1}) Zj ?_);refine fE (cs':=[row _ _ _,row _ _ _,row _ _ _,row _ _ _,slv _ _ _ _ _ _,slv _ _ _ _ _ _,row _ _ _,slv _ _ _ _ _ _]) (.inr rfl) Zu rfl ?_;exact⟨rfl,rfl⟩
 obtain rfl:c=true:=(by cases c with|true=>rfl|false=>cases hc0);have ht:d.tick count=d:=(by unfold Dev.tick;rw[hc];rfl);rw[ht];refine Zc (bP (m7 D bm X d) Zj ?_);refine fE (cs':=[row _ _ _,row _ _ _,row _ _ _,row _ _ _,slv _ _ _ _ _ _,slv _ _ _ _ _ _,row _ _ _,slv _ _ _ _ _ _]) (.inr rfl) Zu rfl ?_;exact⟨rfl,rfl⟩
theorem uS(op:Int)(w:World):Ctr prog 144 [.int .i64 op] w [] (fun v cs=>v= .bool (gl op)∧cs=[]):=by
 refine bL func144 rfl ntmps144 rfl (Inv.start w) ?_;refine mL ?_;refine Z_5 ?_;refine Zra ?_;exact⟨rfl,rfl⟩
theorem Gd(A:Option Addr)(c:Nat)(l:List Int)(x:Int)(w:World)(h:Rd w .i64 A l.length c l):Ctr prog 203 [.slice A l.length c,.int .i64 x] w [] (fun v cs=>(∃z,v= .int .i64 z∧decide (0≤z)=l.contains x)∧cs=[]):=by
 have hlm:l.length≤maxLen:=a9 h.cap h.max;simp only[maxLen]at hlm;refine bL func203 rfl ntmps203 rfl (Inv.start w) ?_;refine iG ?_;refine cG (fun k:Nat=>[(0,.slice A l.length c),(1,.int .i64 x),(7,.int .i64 (l.length:Int)),(8,.int .i64 (k:Int))]) (fun _=>[]) (fun k=>k≤l.length∧∀j,j<k→l[j]? ≠some x) (fun k=>l.length - k) (0) ?_ ?_ ?_ ?_
 ·exact⟨ax _,fun j hj=>by omega⟩
 ·exact Zwk
 ·exact Zu
 rintro k ⟨hk,hno⟩;refine Z_6 ?_;refine ZW ?_ ?_<;>intro hc2
 ·simp only[ap]at hc2;have hkl:k<l.length:=(by omega);obtain⟨ad,rfl⟩:=h.some_ (by omega);have hy:l[k]? =some (l[k]'hkl):=ao hkl;obtain⟨y,hyy⟩:=Zgn (l[k]'hkl);rw[hyy]at hy;refine qo ?_;refine Zy (dx (j:=k) rfl Zrf (Zv rfl) (Zv rfl) (fun _=>by omega) (fun _=>by omega)) ?_;refine dX (bO Zrf Zv0) (fN h (cZ hy)) rfl ?_;refine Z_3 ?_;refine ZW ?_ ?_<;>intro hc4
  ·have e:=jS hc4;refine gQ ?_;refine Zra ?_;exact⟨⟨_,rfl,by rw[aB (show(0:Int)≤(k:Int) by omega),List.contains_eq_mem,aB (e▸aJ hy)]⟩,rfl⟩
  refine Z_4 ?_;refine Zy (cy Zv0 Zv0 Zl) ?_;refine Z_2 ?_;refine ez (k+1) ?_ ?_ ?_
  ·exact⟨⟨by omega,fun j hj=>by rcases Nat.lt_or_ge j k with h1|h1;exact hno j h1;obtain rfl:j=k:=(by omega);rw[hy];intro e;exact ne_of_beq_false hc4 (aG e).symm⟩,by omega⟩
  ·exact Zwk
  exact Zu
 simp only[aj]at hc2;have hnm:l.contains x=false:=(by rw[List.contains_eq_mem,aj];intro hm;obtain⟨j,hj,e⟩:=List.getElem_of_mem hm;exact hno j (by omega) (by rw[ao hj,e]));refine eu ?_;refine Zra ?_;exact⟨⟨_,rfl,by rw[hnm];rfl⟩,rfl⟩
theorem rP(A:Option Addr)(c:Nat)(l:List Int)(x:Int)(w:World)(h:Rd w .i64 A l.length c l):Ctr prog 145 [.slice A l.length c,.int .i64 x] w [] (fun v cs=>v= .bool (l.contains x)∧cs=[]):=by
 refine bL func145 rfl ntmps145 rfl (Inv.start w) ?_;refine Z_9 ?_;refine ZS (fun w hi=>Gd A c l x w (RdV.Iy h hi)) ?_;rintro _ _ ⟨_,⟨⟨z,rfl,hz⟩,rfl⟩,rfl⟩;refine Z_5 ?_;refine Zra ?_;exact⟨by rw[←hz],rfl⟩
end Go.Proofs.YtakodpimdalajaaGreatDoor
namespace Go.Ink
open Go.RowKit
def dA(op:Int):Bool:=bif(bif decide (0≤op)then decide (op≤8)else false)then true else bif(bif bif decide (16≤op)then decide (op≤25)else false then op !=24 else false)then true else(bif decide (32≤op)then decide (op≤40)else false)
theorem iP{op:Int}(h:dA op=true):(0≤op∧op≤8)∨(16≤op∧op≤23)∨op=25∨(32≤op∧op≤40):=by
 unfold dA at h;by_cases h1:0≤op<;>by_cases h2:op≤8<;>by_cases h3:16≤op<;>by_cases h4:op≤25<;>by_cases h5:op=24<;>by_cases h6:32≤op<;>by_cases h7:op≤40<;>simp[h1,h2,h3,h4,h5,h6,h7]at h<;>omega
theorem nO{op:Int}(h:dA op=true):op=0∨op=1∨op=2∨op=3∨op=4∨op=5∨op=6∨op=7∨op=8∨(16≤op∧op≤23)∨op=25∨op=32∨(33≤op∧op≤37)∨op=38∨op=39∨op=40:=by
 rcases iP h with h|h|h|h<;>omega
theorem tX{α:Type}{p:List α→Prop}(h0:p [])(hs:∀l x,p l→p (l++[x]))(l:List α):p l:=by
 have h:∀m:List α,p m.reverse:=fun m=>by
  induction m with
  |nil=>exact h0
  |cons x m ih=>rw[List.reverse_cons];exact hs _ x ih
 have:=h l.reverse;rwa[List.reverse_reverse]at this
structure II where
 op:Int
 dst:Int
 a:Int
 b:Int
 imm:Int
structure Sd where
 l:List Int
 Ic:Int
 high:Int
structure Lw where
 code:List II
 d:Sd
 r:Sd
 flags:Int
 target:Int
 branch:Int
def eU(k:Int)(code:List II)(s:Sd):Int×List II×Sd:=
 match s.l.getLast? with
 |some n=>(n,code,⟨s.l.dropLast,s.Ic,s.high⟩)
 |none=>(code.length,code++[⟨k,code.length,0,0,IntKind.u32.wrap s.Ic⟩],⟨[],s.Ic+1,s.high⟩)
def Sd.put(s:Sd)(l:List Int):Sd:=⟨s.l++l,s.Ic,s.high⟩
def Sd.top(s:Sd):Sd:=⟨s.l,s.Ic,max s.high ((s.l.length:Int) - s.Ic)⟩
def Lw.Ig(w:Lw):Int×Lw:=((eU 1 w.code w.d).1,⟨(eU 1 w.code w.d).2.1,(eU 1 w.code w.d).2.2,w.r,w.flags,w.target,w.branch⟩)
def Lw.IJ(w:Lw):Int×Lw:=((eU 2 w.code w.r).1,⟨(eU 2 w.code w.r).2.1,w.d,(eU 2 w.code w.r).2.2,w.flags,w.target,w.branch⟩)
def Lw.IN(w:Lw)(l:List Int):Lw:=⟨w.code,w.d.put l,w.r,w.flags,w.target,w.branch⟩
def Lw.Jh(w:Lw)(l:List Int):Lw:=⟨w.code,w.d,w.r.put l,w.flags,w.target,w.branch⟩
def Lw.add(w:Lw)(op a b imm:Int):Lw:=⟨w.code++[⟨op,w.code.length,a,b,imm⟩],w.d,w.r,w.flags,w.target,w.branch⟩
def Lw.here(w:Lw):Int:=w.code.length
def Lw.wfl(w:Lw)(x:Int):Lw:=⟨w.code,w.d,w.r,x,w.target,w.branch⟩
def Lw.wtg(w:Lw)(x:Int):Lw:=⟨w.code,w.d,w.r,w.flags,x,w.branch⟩
def Lw.wbr(w:Lw)(x:Int):Lw:=⟨w.code,w.d,w.r,w.flags,w.target,x⟩
def Lw.Ih(w:Lw):Lw:=⟨w.code,w.d.top,w.r.top,w.flags,w.target,w.branch⟩
def Lw.reckon(w:Lw)(op a b:Int):Lw:=
 let w1:=(w.add 4 a b op).wfl w.here
 bif op !=25 then(w1.add 3 a b op).IN [w1.here]else w1
def Lw.go(w:Lw)(op n next:Int):Lw:=
 bif op==1||op==2 then(w.add 0 0 0 n).IN [w.here]else
 bif op==3 then w.Ig.2.IN [w.Ig.1,w.Ig.1]else
 bif op==4 then w.Ig.2 else
 bif op==5 then w.Ig.2.Ig.2.IN [w.Ig.1,w.Ig.2.Ig.1]else
 bif op==6 then w.Ig.2.Ig.2.IN [w.Ig.2.Ig.1,w.Ig.1,w.Ig.2.Ig.1]else
 bif op==7 then w.Ig.2.Jh [w.Ig.1]else
 bif op==8 then w.IJ.2.IN [w.IJ.1]else
 bif decide (16≤op)&&decide (op≤25)then w.Ig.2.Ig.2.reckon op w.Ig.2.Ig.1 w.Ig.1 else
 bif op==38 then(w.add 0 0 0 next).Jh [w.here]else
 bif op==39 then w.IJ.2.wtg w.IJ.1 else
 bif op==40 then w.Ig.2.wtg w.Ig.1 else
 bif decide (33≤op)&&decide (op≤37)then w.wbr op else w
def Lw.one(w:Lw)(op n next:Int):Lw:=(w.go op n next).Ih
def ke(D R V:List Int)(x:II):Int:=
 bif x.op==0 then x.imm else bif x.op==1 then D.getD (D.length - 1 - x.imm.toNat) 0 else bif x.op==2 then R.getD (R.length - 1 - x.imm.toNat) 0 else
 bif x.op==3 then(ij x.imm (V.getD x.a.toNat 0) (V.getD x.b.toNat 0)).1 else(ij x.imm (V.getD x.a.toNat 0) (V.getD x.b.toNat 0)).2.1
def IF(D R:List Int)(code:List II):List Int:=code.foldl (fun V x=>V++[ke D R V x]) []
section
variable {D R:List Int}
theorem kt(code:List II)(x:II):IF D R (code++[x])=IF D R code++[ke D R (IF D R code) x]:=by simp[IF]
theorem p6(code:List II):(IF D R code).length=code.length:=by
 refine tX (p:=fun code=>(IF D R code).length=code.length) rfl (fun l x ih=>?_) code;rw[kt];simp[ih]
theorem ym(c e:List II):∃m,IF D R (c++e)=IF D R c++m:=by
 refine tX (p:=fun e=>∃m,IF D R (c++e)=IF D R c++m) ⟨[],by simp⟩ (fun l x ih=>?_) e;obtain⟨m,hm⟩:=ih;rw[←aq,kt,hm];exact⟨_,aq ..⟩
def II.in_(n:Int)(code:List II):Prop:=0≤n∧n<(code.length:Int)
def dV(D R:List Int)(code:List II)(n:Int):Int:=(IF D R code).getD n.toNat 0
theorem gS{c e:List II}{n:Int}(h:II.in_ n c):dV D R (c++e) n=dV D R c n:=by
 obtain⟨m,hm⟩:=ym (D:=D) (R:=R) c e;have hl:=p6 (D:=D) (R:=R) c;have h2:n.toNat<(IF D R c).length:=by have:=h.1;have:=h.2;omega
 unfold dV;rw[hm];simp only[aw];rw[bD h2]
theorem pH{c:List II}{n:Int}(e:List II)(h:II.in_ n c):II.in_ n (c++e):=⟨h.1,by have:=h.2;simp;omega⟩
theorem i3(c:List II)(x:II):dV D R (c++[x]) c.length=ke D R (IF D R c) x:=by
 unfold dV;rw[kt];have hl:=p6 (D:=D) (R:=R) c;simp only[aw,aQ];rw[←hl,bF (aS _)];simp
theorem lS(c:List II)(x:II):II.in_ (c.length:Int) (c++[x]):=⟨by omega,by simp;omega⟩
structure SI(D R D0:List Int)(code:List II)(s:Sd)(t:List Int):Prop where
 Jo:0≤s.Ic
 Jn:s.Ic≤(D0.length:Int)
 eq:t=D0.take (D0.length - s.Ic.toNat)++s.l.map (dV D R code)
 idx:∀n,n∈s.l→II.in_ n code
theorem SI.app{D0:List Int}{code:List II}{s:Sd}{t:List Int}(h:SI D R D0 code s t)(e:List II):SI D R D0 (code++e) s t:=
 ⟨h.Jo,h.Jn,by rw[h.eq];congr 1;exact List.map_congr_left fun n hn=>(gS (h.idx n hn)).symm,fun n hn=>pH e (h.idx n hn)⟩
theorem SI.put{D0:List Int}{code:List II}{s:Sd}{t:List Int}(h:SI D R D0 code s t)(l:List Int)(hl:∀n,n∈l→II.in_ n code):SI D R D0 code (s.put l) (t++l.map (dV D R code)):=
 ⟨h.Jo,h.Jn,by rw[h.eq];simp[Sd.put],fun n hn=>by rcases aV.1 hn with h1|h1;exact h.idx n h1;exact hl n h1⟩
theorem SI.top{D0:List Int}{code:List II}{s:Sd}{t:List Int}(h:SI D R D0 code s t):SI D R D0 code s.top t:=⟨h.Jo,h.Jn,h.eq,h.idx⟩
theorem SI.len{D0:List Int}{code:List II}{s:Sd}{t:List Int}(h:SI D R D0 code s t):(t.length:Int)=(D0.length:Int) - s.Ic+(s.l.length:Int):=by
 have h1:=h.Jo;have h2:=h.Jn;rw[h.eq];simp;omega
theorem Cm{D0:List Int}{k:Int}(hk:k=1∧D0=D∨k=2∧D0=R){code:List II}{s:Sd}{t:List Int}(h:SI D R D0 code s t)(hD:D0.length≤100)
  (hn:(eU k code s).2.2.Ic≤(D0.length:Int)):
  ∃l x,t=l++[x]∧SI D R D0 (eU k code s).2.1 (eU k code s).2.2 l∧II.in_ (eU k code s).1 (eU k code s).2.1∧dV D R (eU k code s).2.1 (eU k code s).1=x∧∃e,(eU k code s).2.1=code++e:=by
 have h0:=h.Jo;have h1:=h.Jn;have he:=h.eq;unfold eU at hn⊢;cases hl:s.l.getLast? with
 |some n=>
  rw[hl]at hn;obtain⟨m,hm⟩:∃m,s.l=m++[n]:=List.getLast?_eq_some_iff.1 hl;refine⟨D0.take (D0.length - s.Ic.toNat)++m.map (dV D R code),dV D R code n,?_,⟨h0,h1,?_,?_⟩,?_,rfl,[],?_⟩
  ·rw[he,hm];simp
  ·simp[hm]
  ·intro j hj;rw[hm]at hj;exact h.idx j (by rw[hm];simp at hj⊢;exact Or.inl hj)
  ·exact h.idx n (by rw[hm];simp)
  simp
 |none=>
  rw[hl]at hn;have hs:s.l=[]:=List.getLast?_eq_none_iff.1 hl;have hn:s.Ic+1≤(D0.length:Int):=hn;have hw:IntKind.u32.wrap s.Ic=s.Ic:=by rw[aE];omega
  rw[hs]at he;obtain⟨j,hj⟩:∃j:Nat,s.Ic=j:=⟨s.Ic.toNat,by omega⟩;have hv:dV D R (code++[⟨k,code.length,0,0,IntKind.u32.wrap s.Ic⟩]) code.length=D0.getD (D0.length - 1 - j) 0:=by
   rw[i3,hw,hj];rcases hk with⟨rfl,rfl⟩|⟨rfl,rfl⟩<;>rfl
  refine⟨D0.take (D0.length - (j+1)),D0.getD (D0.length - 1 - j) 0,?_,⟨by show 0≤s.Ic+1;omega,hn,?_,fun n hn=>by cases hn⟩,lS _ _,hv,_,rfl⟩
  ·rw[he,hj];have e1:D0.length - ((j:Int)).toNat=(D0.length - (j+1))+1:=by omega
   rw[e1,List.map_nil,ay,List.take_add_one];congr 1;have e2:D0.length - 1 - j=D0.length - (j+1):=by omega
   have e3:D0.length - (j+1)<D0.length:=by omega
   rw[e2,aw,ao e3];rfl
  show D0.take _=D0.take _++List.map _ [];rw[List.map_nil,ay,show(s.Ic+1).toNat=j+1 by omega]
structure LI(D R:List Int)(w:Lw)(td tr:List Int):Prop where
 d:SI D R D w.code w.d td
 r:SI D R R w.code w.r tr
def FL(D R:List Int)(f0:Int)(w:Lw)(f:Int):Prop:=w.flags= -1∧f=f0∨II.in_ w.flags w.code∧f=dV D R w.code w.flags
theorem FL.app{f0 f:Int}{w w':Lw}(h:FL D R f0 w f){e:List II}(hc:w'.code=w.code++e)(hf:w'.flags=w.flags):FL D R f0 w' f:=by
 rcases h with⟨h1,h2⟩|⟨h1,h2⟩
 ·exact Or.inl ⟨by rw[hf,h1],h2⟩
 exact Or.inr ⟨by rw[hf,hc];exact pH e h1,by rw[hf,hc,gS h1,h2]⟩
theorem oQ{w:Lw}{td tr:List Int}(h:LI D R w td tr)(hD:D.length≤100)(hn:w.Ig.2.d.Ic≤(D.length:Int)):
  ∃l x,td=l++[x]∧LI D R w.Ig.2 l tr∧II.in_ w.Ig.1 w.Ig.2.code∧dV D R w.Ig.2.code w.Ig.1=x∧∃e,w.Ig.2.code=w.code++e:=by
 obtain⟨l,x,h1,h2,h3,h4,e,h5⟩:=Cm (k:=1) (Or.inl ⟨rfl,rfl⟩) h.d hD hn;exact⟨l,x,h1,⟨h2,by have:=h.r.app e;rw[←h5]at this;exact this⟩,h3,h4,e,h5⟩
theorem Cn{w:Lw}{td tr:List Int}(h:LI D R w td tr)(hR:R.length≤100)(hn:w.IJ.2.r.Ic≤(R.length:Int)):
  ∃l x,tr=l++[x]∧LI D R w.IJ.2 td l∧II.in_ w.IJ.1 w.IJ.2.code∧dV D R w.IJ.2.code w.IJ.1=x∧∃e,w.IJ.2.code=w.code++e:=by
 obtain⟨l,x,h1,h2,h3,h4,e,h5⟩:=Cm (k:=2) (Or.inr ⟨rfl,rfl⟩) h.r hR hn;exact⟨l,x,h1,⟨by have:=h.d.app e;rw[←h5]at this;exact this,h2⟩,h3,h4,e,h5⟩
theorem LI.IN{w:Lw}{td tr:List Int}(h:LI D R w td tr)(l:List Int)(hl:∀n,n∈l→II.in_ n w.code):LI D R (w.IN l) (td++l.map (dV D R w.code)) tr:=⟨h.d.put l hl,h.r⟩
theorem LI.Jh{w:Lw}{td tr:List Int}(h:LI D R w td tr)(l:List Int)(hl:∀n,n∈l→II.in_ n w.code):LI D R (w.Jh l) td (tr++l.map (dV D R w.code)):=⟨h.d,h.r.put l hl⟩
theorem LI.add{w:Lw}{td tr:List Int}(h:LI D R w td tr)(op a b imm:Int):LI D R (w.add op a b imm) td tr:=⟨h.d.app _,h.r.app _⟩
theorem LI.Ih{w:Lw}{td tr:List Int}(h:LI D R w td tr):LI D R w.Ih td tr:=⟨h.d.top,h.r.top⟩
theorem LI.wfl{w:Lw}{td tr:List Int}(h:LI D R w td tr)(x:Int):LI D R (w.wfl x) td tr:=⟨h.d,h.r⟩
theorem LI.wtg{w:Lw}{td tr:List Int}(h:LI D R w td tr)(x:Int):LI D R (w.wtg x) td tr:=⟨h.d,h.r⟩
theorem LI.wbr{w:Lw}{td tr:List Int}(h:LI D R w td tr)(x:Int):LI D R (w.wbr x) td tr:=⟨h.d,h.r⟩
theorem LI.Jk{w:Lw}{td tr:List Int}(h:LI D R w.Ih td tr):(td.length:Int)≤(D.length:Int)+w.Ih.d.high:=by
 have h1:=h.d.len;have h2:w.Ih.d.Ic=w.d.Ic:=rfl;have h3:w.Ih.d.l=w.d.l:=rfl;have h4:(w.d.l.length:Int) - w.d.Ic≤w.Ih.d.high:=Int.le_max_right _ _;rw[h2,h3]at h1;omega
theorem LI.lenR{w:Lw}{td tr:List Int}(h:LI D R w.Ih td tr):(tr.length:Int)≤(R.length:Int)+w.Ih.r.high:=by
 have h1:=h.r.len;have h2:w.Ih.r.Ic=w.r.Ic:=rfl;have h3:w.Ih.r.l=w.r.l:=rfl;have h4:(w.r.l.length:Int) - w.r.Ic≤w.Ih.r.high:=Int.le_max_right _ _;rw[h2,h3]at h1;omega
end
section
variable {s:St} {op nn:Int}
theorem HV{R:Run}(hs:s.right=true)(hp:dA op=true)(ho:gb op nn=true)(hm:vY s op nn=R)(ht:R.Io=Tr.none)(hv:R.device=false)
  (h1:(bQ op).1.1≤s.d.length) (h2:(bQ op).2.1≤s.r.length) (h3:s.d.length+(bQ op).1.2≤16+(bQ op).1.1) (h4:s.r.length+(bQ op).2.2≤16+(bQ op).2.1):
  doN s op nn=⟨R.s,false,false,[]⟩:=by
 have hn:jl s (bQ op)=0:=by
  unfold jl;rw[show decide ((s.d.length:Int)<((bQ op).1.1:Int))=false from aD (by omega),show decide ((s.r.length:Int)<((bQ op).2.1:Int))=false from aD (by omega),
   show decide (16<(s.d.length:Int) - ((bQ op).1.1:Int)+((bQ op).1.2:Int))=false from aD (by omega),show decide (16<(s.r.length:Int) - ((bQ op).2.1:Int)+((bQ op).2.2:Int))=false from aD (by omega)]
  rfl
 have hc:=iP hp;have e1:mU op=false:=by unfold mU;rw[show decide (65≤op)=false from aD (by omega)];rfl
 have e2:(op==66)=false:=by simp;omega
 have e3:(op==67)=false:=by simp;omega
 unfold doN eO;rw[hs,ho,hn,e1,e2,e3,hm];show HJ s R=_;unfold HJ;rw[ht,hv]
 rfl
theorem sU(h:(16≤op∧op≤23)∨op=25)(R:Run):dK op nn R=none∧cL op nn R=(true,bif op !=25 then(R.pop.pop.wfl (ij op R.pop.top R.top).2.1).push [(ij op R.pop.top R.top).1]else R.pop.pop.wfl (ij op R.pop.top R.top).2.1):=by
 have h:op=16∨op=17∨op=18∨op=19∨op=20∨op=21∨op=22∨op=23∨op=25:=by omega
 rcases h with rfl|rfl|rfl|rfl|rfl|rfl|rfl|rfl|rfl<;>exact⟨rfl,rfl⟩
theorem yS(h:33≤op∧op≤37)(R:Run):dK op nn R=none∧cL op nn R=(true,bif(dc op R.s.flags).1 then R.wpc (jg R nn)else R):=by
 have h:op=33∨op=34∨op=35∨op=36∨op=37:=by omega
 rcases h with rfl|rfl|rfl|rfl|rfl<;>exact⟨rfl,rfl⟩
end
def dP(s:St)(op:Int):Int:=IntKind.u32.wrap (s.pc+IntKind.u32.wrap (cz op))
def pv(D R:List Int)(w:Lw)(op nn nx f:Int):Int:=
 bif(dc w.branch f).1 then IntKind.u32.wrap (nx+kH nn)else bif w.target== -1 then(bif op==32||op==38 then IntKind.u32.wrap (nx+kH nn)else nx)else dV D R w.code w.target
structure yc(D R:List Int)(f0:Int)(s:St)(op nn:Int)(w':Lw)(s':St):Prop where
 did:doN s op nn=⟨s',false,false,[]⟩
 li:LI D R w' s'.d s'.r
 fl:FL D R f0 w' s'.flags
 pc:s'.pc=pv D R w' op nn (dP s op) s'.flags
 tg:w'.target= -1∨II.in_ w'.target w'.code
 going:op<32→w'.target= -1∧w'.branch=0
 rest:s'=⟨s'.pc,s'.d,s'.r,s'.flags,s.If,s.Il,s.ie,s.root,s.vec,s.epc,s.Ie,s.addr,s.Ip,s.eie,IntKind.u64.wrap (s.count+1),s.halted⟩
section
variable {D R:List Int} {f0:Int} {s:St} {op nn:Int} {w w':Lw}
theorem qm{nx f:Int}(hb:w'.branch=0)(ht:w'.target= -1)(h:(op==32||op==38)=false):pv D R w' op nn nx f=nx:=by
 unfold pv;rw[hb,ht,h];rfl
theorem iC(td tr:List Int)(hs:s.right=true)(hp:dA op=true)(ho:gb op nn=true)(hm:dK op nn (eW s op)=some (((eW s op).wd td).wr tr))
  (h1:(bQ op).1.1≤s.d.length) (h2:(bQ op).2.1≤s.r.length) (h3:s.d.length+(bQ op).1.2≤16+(bQ op).1.1) (h4:s.r.length+(bQ op).2.2≤16+(bQ op).2.1)
  (hl:LI D R w' td tr) (hf:FL D R f0 w' s.flags) (hb:w'.branch=0) (ht:w'.target= -1) (ho2:(op==32||op==38)=false):∃s',yc D R f0 s op nn w' s':=
 ⟨(((eW s op).wd td).wr tr).s,HV hs hp ho (by unfold vY;rw[hm]) rfl rfl h1 h2 h3 h4,hl,hf,(qm hb ht ho2).symm,Or.inl ht,fun _=>⟨ht,hb⟩,rfl⟩
theorem Co(w:Lw):w.d.Ic≤w.Ig.2.d.Ic:=by
 show w.d.Ic≤(eU 1 w.code w.d).2.2.Ic;unfold eU;cases w.d.l.getLast? with
 |some n=>exact bE _
 |none=>show w.d.Ic≤w.d.Ic+1;omega
theorem mz{t l:List Int}{x:Int}(h:t=l++[x]):t.length=l.length+1:=by rw[h];simp
theorem uy{td tr:List Int}(h:LI D R w td tr)(hD:D.length≤100)(hn:w.Ig.2.Ig.2.d.Ic≤(D.length:Int)):
  ∃l x y,td=(l++[x])++[y]∧LI D R w.Ig.2.Ig.2 l tr∧II.in_ w.Ig.1 w.Ig.2.Ig.2.code∧dV D R w.Ig.2.Ig.2.code w.Ig.1=y∧
   II.in_ w.Ig.2.Ig.1 w.Ig.2.Ig.2.code∧dV D R w.Ig.2.Ig.2.code w.Ig.2.Ig.1=x∧∃e,w.Ig.2.Ig.2.code=w.code++e:=by
 obtain⟨l1,y,a1,a2,a3,a4,e1,a5⟩:=oQ h hD (Int.le_trans (Co w.Ig.2) hn);obtain⟨l,x,b1,b2,b3,b4,e2,b5⟩:=oQ a2 hD hn;exact⟨l,x,y,by rw[a1,b1],b2,by rw[b5];exact pH e2 a3,by rw[b5,gS a3,a4],b3,b4,e1++e2,by rw[b5,a5,aq]⟩
theorem lV{R':Run}(hs:s.right=true)(hp:dA op=true)(ho:gb op nn=true)(hm:vY s op nn=R')(ht:R'.Io=Tr.none)(hv:R'.device=false)
  (h1:(bQ op).1.1≤s.d.length) (h2:(bQ op).2.1≤s.r.length) (h3:s.d.length+(bQ op).1.2≤16+(bQ op).1.1) (h4:s.r.length+(bQ op).2.2≤16+(bQ op).2.1)
  (hl:LI D R w' R'.s.d R'.s.r) (hf:FL D R f0 w' R'.s.flags) (hpc:R'.s.pc=pv D R w' op nn (dP s op) R'.s.flags) (htg:w'.target= -1∨II.in_ w'.target w'.code) (hgo:op<32→w'.target= -1∧w'.branch=0)
  (hr:R'.s=⟨R'.s.pc,R'.s.d,R'.s.r,R'.s.flags,s.If,s.Il,s.ie,s.root,s.vec,s.epc,s.Ie,s.addr,s.Ip,s.eie,IntKind.u64.wrap (s.count+1),s.halted⟩):∃s',yc D R f0 s op nn w' s':=
 ⟨R'.s,HV hs hp ho hm ht hv h1 h2 h3 h4,hl,hf,hpc,htg,hgo,hr⟩
theorem kC(h:(16≤op∧op≤23)∨op=25)(w:Lw)(n nx:Int):w.go op n nx=w.Ig.2.Ig.2.reckon op w.Ig.2.Ig.1 w.Ig.1:=by
 have h:op=16∨op=17∨op=18∨op=19∨op=20∨op=21∨op=22∨op=23∨op=25:=by omega
 rcases h with rfl|rfl|rfl|rfl|rfl|rfl|rfl|rfl|rfl<;>rfl
theorem j4(h:16≤op∧op≤23):bQ op=((2,1),(0,0)):=by
 have h:op=16∨op=17∨op=18∨op=19∨op=20∨op=21∨op=22∨op=23:=by omega
 rcases h with rfl|rfl|rfl|rfl|rfl|rfl|rfl|rfl<;>rfl
theorem qQ(h:(16≤op∧op≤23)∨op=25){l:List Int}{x y:Int}(hd:s.d=(l++[x])++[y]):
  vY s op nn=bif op !=25 then((eW s op).wd (l++[(ij op x y).1])).wfl (ij op x y).2.1 else((eW s op).wd l).wfl (ij op x y).2.1:=by
 have e0:eW s op=(eW s op).wd ((l++[x])++[y]):=congrArg (fun t=>(eW s op).wd t) hd;unfold vY;rw[(sU h (eW s op)).1];show(bif(cL op nn (eW s op)).1 then(cL op nn (eW s op)).2 else _)=_;rw[(sU h (eW s op)).2];have e1:(eW s op).top=y:=(congrArg Run.top e0).trans (Run.top_wd _ _ _);have e2:(eW s op).pop=(eW s op).wd (l++[x]):=(congrArg Run.pop e0).trans (Run.pop_wd _ _ _);have e3:(eW s op).pop.top=x:=(congrArg Run.top e2).trans (Run.top_wd _ _ _);have e4:(eW s op).pop.pop=(eW s op).wd l:=(congrArg Run.pop e2).trans (Run.pop_wd _ _ _);rw[e1,e3,e4]
 rfl
theorem y7{c:List II}{a b x y:Int}(k6:dV D R c a=x)(k4:dV D R c b=y):dV D R (c++[⟨4,c.length,a,b,op⟩]) c.length=(ij op x y).2.1:=by
 rw[i3,←k6,←k4];rfl
theorem alu_new{c:List II}{a b x y:Int}(k6:dV D R c a=x)(k4:dV D R c b=y):dV D R (c++[⟨3,c.length,a,b,op⟩]) c.length=(ij op x y).1:=by
 rw[i3,←k6,←k4];rfl
theorem jump_no(h:(16≤op∧op≤23)∨op=25):(op==32||op==38)=false:=by
 have h:op=16∨op=17∨op=18∨op=19∨op=20∨op=21∨op=22∨op=23∨op=25:=by omega
 rcases h with rfl|rfl|rfl|rfl|rfl|rfl|rfl|rfl|rfl<;>rfl
theorem one_ok(hp:dA op=true)(ho:gb op nn=true)(hs:s.right=true)(h:LI D R w s.d s.r)(hf:FL D R f0 w s.flags)(hD:D.length≤16)(hR:R.length≤16)(ht:w.target= -1)(hb:w.branch=0)
  (n1:(w.one op nn (dP s op)).d.Ic≤(D.length:Int)) (n2:(w.one op nn (dP s op)).r.Ic≤(R.length:Int))
  (g1:(D.length:Int)+(w.one op nn (dP s op)).d.high≤16) (g2:(R.length:Int)+(w.one op nn (dP s op)).r.high≤16):∃s',yc D R f0 s op nn (w.one op nn (dP s op)) s':=by
 obtain⟨q1,q2, -⟩:=St.fits hs;obtain⟨nx,hnx⟩:=Zgn (dP s op);rcases nO hp with rfl|rfl|rfl|rfl|rfl|rfl|rfl|rfl|rfl|hr|hr|rfl|hr|rfl|rfl|rfl
 ·refine iC s.d s.r hs hp ho rfl (ax _) (ax _) q1 q2 h.Ih hf hb ht rfl
 ·have h6:LI D R (w.one 1 nn nx) (s.d++[nn]) s.r:=by
   have h7:=((h.add 0 0 0 nn).IN [w.here] (fun n hn=>by rw[aN.1 hn];exact lS _ _)).Ih;rw[List.map_cons,List.map_nil,show dV D R (w.add 0 0 0 nn).code w.here=nn from i3 _ _]at h7;exact h7
  have h8:=h6.Jk;rw[hnx]at g1;refine iC (s.d++[nn]) s.r hs hp ho rfl (ax _) (ax _) (show s.d.length+1≤16+0 from ?_) q2 (hnx▸h6) (hf.app (w':=w.one 1 nn (dP s 1)) rfl rfl) hb ht rfl;have h9:(((s.d++[nn]).length:Nat):Int)≤_:=h8;have h10:=Int.le_trans h9 g1;simp at h10;omega
 ·have h6:LI D R (w.one 2 nn nx) (s.d++[nn]) s.r:=by
   have h7:=((h.add 0 0 0 nn).IN [w.here] (fun n hn=>by rw[aN.1 hn];exact lS _ _)).Ih;rw[List.map_cons,List.map_nil,show dV D R (w.add 0 0 0 nn).code w.here=nn from i3 _ _]at h7;exact h7
  have h8:=h6.Jk;rw[hnx]at g1;refine iC (s.d++[nn]) s.r hs hp ho rfl (ax _) (ax _) (show s.d.length+1≤16+0 from ?_) q2 (hnx▸h6) (hf.app (w':=w.one 2 nn (dP s 2)) rfl rfl) hb ht rfl;have h9:(((s.d++[nn]).length:Nat):Int)≤_:=h8;have h10:=Int.le_trans h9 g1;simp at h10;omega
 ·obtain⟨l,x,k1,k2,k3,k4,e,k5⟩:=oQ h (by omega) n1;have h6:LI D R (w.one 3 nn nx) (l++[x,x]) s.r:=by
   have h7:=(k2.IN [w.Ig.1,w.Ig.1] (by intro n hn;simp at hn;rw[hn];exact k3)).Ih;rw[show[w.Ig.1,w.Ig.1].map (dV D R w.Ig.2.code)=[x,x] by simp[k4]]at h7;exact h7
  have h8:(((l++[x,x]:List Int).length:Nat):Int)≤_:=h6.Jk;rw[hnx]at g1;have h10:=Int.le_trans h8 g1;have h11:=mz k1;simp at h10;refine iC (l++[x,x]) s.r hs hp ho ((congrArg (fun t=>dK 3 nn ((eW s 3).wd t)) k1).trans (mO nn (eW s 3) l x)) (show 1≤s.d.length by omega) (ax _) (show s.d.length+2≤16+1 by omega) q2 (hnx▸h6) (hf.app (w':=w.one 3 nn (dP s 3)) k5 rfl) hb ht rfl
 ·obtain⟨l,x,k1,k2,k3,k4,e,k5⟩:=oQ h (by omega) n1;have h6:LI D R (w.one 4 nn nx) (l) s.r:=by
   have h7:=k2.Ih;exact h7
  have h8:(((l:List Int).length:Nat):Int)≤_:=h6.Jk;rw[hnx]at g1;have h10:=Int.le_trans h8 g1;have h11:=mz k1;refine iC (l) s.r hs hp ho ((congrArg (fun t=>dK 4 nn ((eW s 4).wd t)) k1).trans (lB nn (eW s 4) l x)) (show 1≤s.d.length by omega) (ax _) (show s.d.length+0≤16+1 by omega) q2 (hnx▸h6) (hf.app (w':=w.one 4 nn (dP s 4)) k5 rfl) hb ht rfl
 ·obtain⟨l,x,y,k1,k2,k3,k4,k5,k6,e,k7⟩:=uy h (by omega) n1;have h6:LI D R (w.one 5 nn nx) (l++[y,x]) s.r:=by
   have h7:=(k2.IN [w.Ig.1,w.Ig.2.Ig.1] (by intro n hn;simp at hn;rcases hn with rfl|rfl<;>first|exact k3|exact k5)).Ih;rw[show[w.Ig.1,w.Ig.2.Ig.1].map (dV D R w.Ig.2.Ig.2.code)=[y,x] by simp[k4,k6]]at h7;exact h7
  have h8:(((l++[y,x]:List Int).length:Nat):Int)≤_:=h6.Jk;rw[hnx]at g1;have h10:=Int.le_trans h8 g1;have h11:s.d.length=l.length+2:=by rw[k1];simp
  simp at h10;refine iC (l++[y,x]) s.r hs hp ho ((congrArg (fun t=>dK 5 nn ((eW s 5).wd t)) k1).trans (lz nn (eW s 5) l x y)) (show 2≤s.d.length by omega) (ax _) (show s.d.length+2≤16+2 by omega) q2 (hnx▸h6) (hf.app (w':=w.one 5 nn (dP s 5)) k7 rfl) hb ht rfl
 ·obtain⟨l,x,y,k1,k2,k3,k4,k5,k6,e,k7⟩:=uy h (by omega) n1;have h6:LI D R (w.one 6 nn nx) (l++[x,y,x]) s.r:=by
   have h7:=(k2.IN [w.Ig.2.Ig.1,w.Ig.1,w.Ig.2.Ig.1] (by intro n hn;simp at hn;rcases hn with rfl|rfl|rfl<;>first|exact k3|exact k5)).Ih;rw[show[w.Ig.2.Ig.1,w.Ig.1,w.Ig.2.Ig.1].map (dV D R w.Ig.2.Ig.2.code)=[x,y,x] by simp[k4,k6]]at h7;exact h7
  have h8:(((l++[x,y,x]:List Int).length:Nat):Int)≤_:=h6.Jk;rw[hnx]at g1;have h10:=Int.le_trans h8 g1;have h11:s.d.length=l.length+2:=by rw[k1];simp
  simp at h10;refine iC (l++[x,y,x]) s.r hs hp ho ((congrArg (fun t=>dK 6 nn ((eW s 6).wd t)) k1).trans (lA nn (eW s 6) l x y)) (show 2≤s.d.length by omega) (ax _) (show s.d.length+3≤16+2 by omega) q2 (hnx▸h6) (hf.app (w':=w.one 6 nn (dP s 6)) k7 rfl) hb ht rfl
 ·obtain⟨l,x,k1,k2,k3,k4,e,k5⟩:=oQ h (by omega) n1;have h6:LI D R (w.one 7 nn nx) l (s.r++[x]):=by
   have h7:=(k2.Jh [w.Ig.1] (by intro n hn;simp at hn;rw[hn];exact k3)).Ih;rw[show[w.Ig.1].map (dV D R w.Ig.2.code)=[x] by simp[k4]]at h7;exact h7
  have h8:(((s.r++[x]:List Int).length:Nat):Int)≤_:=h6.lenR;rw[hnx]at g2;have h10:=Int.le_trans h8 g2;have h11:=mz k1;simp at h10;refine iC l (s.r++[x]) hs hp ho ((congrArg (fun t=>dK 7 nn ((eW s 7).wd t)) k1).trans (mN nn (eW s 7) l x)) (show 1≤s.d.length by omega) (ax _) (show s.d.length+0≤16+1 by omega) (show s.r.length+1≤16+0 by omega) (hnx▸h6) (hf.app (w':=w.one 7 nn (dP s 7)) k5 rfl) hb ht rfl
 ·obtain⟨l,x,k1,k2,k3,k4,e,k5⟩:=Cn h (by omega) n2;have h6:LI D R (w.one 8 nn nx) (s.d++[x]) l:=by
   have h7:=(k2.IN [w.IJ.1] (by intro n hn;simp at hn;rw[hn];exact k3)).Ih;rw[show[w.IJ.1].map (dV D R w.IJ.2.code)=[x] by simp[k4]]at h7;exact h7
  have h8:(((s.d++[x]:List Int).length:Nat):Int)≤_:=h6.Jk;rw[hnx]at g1;have h10:=Int.le_trans h8 g1;have h11:=mz k1;simp at h10;refine iC (s.d++[x]) l hs hp ho ((congrArg (fun t=>dK 8 nn ((eW s 8).wr t)) k1).trans (kM nn (eW s 8) l x)) (ax _) (show 1≤s.r.length by omega) (show s.d.length+1≤16+0 by omega) (show s.r.length+0≤16+1 by omega) (hnx▸h6) (hf.app (w':=w.one 8 nn (dP s 8)) k5 rfl) hb ht rfl
 ·have hr2:(16≤op∧op≤23)∨op=25:=Or.inl hr;have e25:(op !=25)=true:=by simp;omega
  have ew:w.one op nn (dP s op)=(((((w.Ig.2.Ig.2.add 4 w.Ig.2.Ig.1 w.Ig.1 op).wfl w.Ig.2.Ig.2.here).add 3 w.Ig.2.Ig.1 w.Ig.1 op).IN [((w.Ig.2.Ig.2.add 4 w.Ig.2.Ig.1 w.Ig.1 op).wfl w.Ig.2.Ig.2.here).here])).Ih:=by
   refine(congrArg Lw.Ih (kC hr2 w nn _)).trans (congrArg Lw.Ih ?_);unfold Lw.reckon;rw[e25]
   rfl
  rw[ew]at n1 n2 g1 g2⊢;obtain⟨l,x,y,k1,k2,k3,k4,k5,k6,e,k7⟩:=uy h (by omega) n1;have h6:=(((k2.add 4 w.Ig.2.Ig.1 w.Ig.1 op).wfl w.Ig.2.Ig.2.here).add 3 w.Ig.2.Ig.1 w.Ig.1 op).IN [((w.Ig.2.Ig.2.add 4 w.Ig.2.Ig.1 w.Ig.1 op).wfl w.Ig.2.Ig.2.here).here] (fun n hn=>by
   rw[aN.1 hn];exact lS _ _)
  have hv:=alu_new (D:=D) (R:=R) (op:=op) (c:=w.Ig.2.Ig.2.code++[⟨4,w.Ig.2.Ig.2.code.length,w.Ig.2.Ig.1,w.Ig.1,op⟩]) ((gS k5).trans k6) ((gS k3).trans k4);rw[List.map_cons,List.map_nil]at h6;have h7:=Eq.mp (congrArg (fun v=>LI D R ((((w.Ig.2.Ig.2.add 4 w.Ig.2.Ig.1 w.Ig.1 op).wfl w.Ig.2.Ig.2.here).add 3 w.Ig.2.Ig.1 w.Ig.1 op).IN [((w.Ig.2.Ig.2.add 4 w.Ig.2.Ig.1 w.Ig.1 op).wfl w.Ig.2.Ig.2.here).here]) (l++[v]) s.r) hv) h6;have h8:=h7.Ih.Jk;have h10:=Int.le_trans h8 g1;have h11:s.d.length=l.length+2:=by rw[k1];simp
  simp at h10;refine lV (R':=((eW s op).wd (l++[(ij op x y).1])).wfl (ij op x y).2.1) hs hp ho (by rw[qQ hr2 k1,e25];rfl) rfl rfl ?_ ?_ ?_ ?_ h7.Ih ?_ ?_ (Or.inl ht) (fun _=>⟨ht,hb⟩) rfl
  ·rw[j4 hr];show 2≤_;omega
  ·rw[j4 hr];exact ax _
  ·rw[j4 hr];show _+1≤16+2;omega
  ·rw[j4 hr];exact q2
  ·exact Or.inr ⟨pH _ (lS _ _),((gS (lS _ _)).trans (y7 k6 k4)).symm⟩
  refine Eq.symm (qm ?_ ?_ (jump_no hr2))
  ·exact hb
  exact ht
 ·subst hr;have ew:w.one 25 nn (dP s 25)=((w.Ig.2.Ig.2.add 4 w.Ig.2.Ig.1 w.Ig.1 25).wfl w.Ig.2.Ig.2.here).Ih:=rfl;rw[ew]at n1 n2 g1 g2⊢;obtain⟨l,x,y,k1,k2,k3,k4,k5,k6,e,k7⟩:=uy h (by omega) n1;have h7:=((k2.add 4 w.Ig.2.Ig.1 w.Ig.1 25).wfl w.Ig.2.Ig.2.here).Ih;have h11:s.d.length=l.length+2:=by rw[k1];simp
  refine lV (R':=((eW s 25).wd l).wfl (ij 25 x y).2.1) hs hp ho (by rw[qQ (Or.inr rfl) k1];rfl) rfl rfl (show 2≤s.d.length by omega) (ax _) (show s.d.length+0≤16+2 by omega) q2 h7 ?_ ?_ (Or.inl ht) (fun _=>⟨ht,hb⟩) rfl
  ·exact Or.inr ⟨lS _ _,(y7 k6 k4).symm⟩
  refine Eq.symm (qm ?_ ?_ rfl)
  ·exact hb
  exact ht
 ·refine lV (R':=(eW s 32).wpc (jg (eW s 32) nn)) hs hp ho rfl rfl rfl (ax _) (ax _) q1 q2 h.Ih hf ?_ (Or.inl ht) (fun h=>absurd h (by decide)) rfl;show _=bif(dc w.branch s.flags).1 then _ else bif w.target== -1 then _ else _
  rw[hb,ht];rfl
 ·have h5:op=33∨op=34∨op=35∨op=36∨op=37:=by omega
  have eg:w.one op nn (dP s op)=(w.wbr op).Ih:=by rcases h5 with rfl|rfl|rfl|rfl|rfl<;>rfl
  have eq:bQ op=((0,0),(0,0)):=by rcases h5 with rfl|rfl|rfl|rfl|rfl<;>rfl
  have ej:(op==32||op==38)=false:=by rcases h5 with rfl|rfl|rfl|rfl|rfl<;>rfl
  rw[eg]at n1 n2 g1 g2⊢;have em:vY s op nn=bif(dc op s.flags).1 then(eW s op).wpc (jg (eW s op) nn)else eW s op:=by
   unfold vY;rw[(yS hr _).1];show(bif(cL op nn (eW s op)).1 then(cL op nn (eW s op)).2 else _)=_;rw[(yS hr _).2];rfl
  cases hh:(dc op s.flags).1 with
  |true=>
   rw[hh]at em;refine lV (R':=(eW s op).wpc (jg (eW s op) nn)) hs hp ho em rfl rfl (by rw[eq];exact ax _) (by rw[eq];exact ax _) (by rw[eq];exact q1) (by rw[eq];exact q2) (h.wbr op).Ih hf ?_ (Or.inl ht) (fun h=>absurd h (by omega)) rfl;show _=bif(dc op s.flags).1 then _ else _
   rw[hh];rfl
  |false=>
   rw[hh]at em;refine lV (R':=eW s op) hs hp ho em rfl rfl (by rw[eq];exact ax _) (by rw[eq];exact ax _) (by rw[eq];exact q1) (by rw[eq];exact q2) (h.wbr op).Ih hf ?_ (Or.inl ht) (fun h=>absurd h (by omega)) rfl;show _=bif(dc op s.flags).1 then _ else bif w.target== -1 then(bif op==32||op==38 then _ else _)else _
   rw[hh,ht,ej];rfl
 ·have ew:w.one 38 nn (dP s 38)=((w.add 0 0 0 (dP s 38)).Jh [w.here]).Ih:=rfl;rw[ew]at n1 n2 g1 g2⊢;have h7:=((h.add 0 0 0 (dP s 38)).Jh [w.here] (fun n hn=>by rw[aN.1 hn];exact lS _ _)).Ih;rw[List.map_cons,List.map_nil,show dV D R (w.add 0 0 0 (dP s 38)).code w.here=dP s 38 from i3 _ _]at h7;have h10:=Int.le_trans h7.lenR g2;simp at h10;refine lV (R':=((eW s 38).Jl (dP s 38)).wpc (jg (eW s 38) nn)) hs hp ho rfl rfl rfl (ax _) (ax _) q1 (show s.r.length+1≤16+0 by omega) h7 (hf.app (w':=((w.add 0 0 0 (dP s 38)).Jh [w.here]).Ih) rfl rfl) ?_ (Or.inl ht) (fun h=>absurd h (by decide)) rfl;show _=bif(dc w.branch s.flags).1 then _ else bif w.target== -1 then _ else _
  rw[hb,ht];rfl
 ·have ew:w.one 39 nn (dP s 39)=(w.IJ.2.wtg w.IJ.1).Ih:=rfl;rw[ew]at n1 n2 g1 g2⊢;obtain⟨l,x,k1,k2,k3,k4,e,k5⟩:=Cn h (by omega) n2;have h11:=mz k1;have e0:eW s 39=(eW s 39).wr (l++[x]):=congrArg (fun t=>(eW s 39).wr t) k1;have e1:(eW s 39).topR=x:=(congrArg Run.topR e0).trans (Run.topR_wr _ _ _);have e2:(eW s 39).IJ=(eW s 39).wr l:=(congrArg Run.IJ e0).trans (Run.popR_wr _ _ _);have em:vY s 39 nn=((eW s 39).wr l).wpc x:=by
   have:vY s 39 nn=(eW s 39).IJ.wpc (eW s 39).topR:=rfl;rw[this,e1,e2]
  have e3:(w.IJ.1== -1)=false:=by have:=k3.1;simp;omega
  refine lV (R':=((eW s 39).wr l).wpc x) hs hp ho em rfl rfl (ax _) (show 1≤s.r.length by omega) q1 (show s.r.length+0≤16+1 by omega) (k2.wtg _).Ih (hf.app (w':=(w.IJ.2.wtg w.IJ.1).Ih) k5 rfl) ?_ (Or.inr k3) (fun h=>absurd h (by decide)) rfl;show x=bif(dc w.branch s.flags).1 then _ else bif w.IJ.1== -1 then _ else dV D R w.IJ.2.code w.IJ.1
  rw[hb,e3,k4];rfl
 have ew:w.one 40 nn (dP s 40)=(w.Ig.2.wtg w.Ig.1).Ih:=rfl;rw[ew]at n1 n2 g1 g2⊢;obtain⟨l,x,k1,k2,k3,k4,e,k5⟩:=oQ h (by omega) n1;have h11:=mz k1;have e0:eW s 40=(eW s 40).wd (l++[x]):=congrArg (fun t=>(eW s 40).wd t) k1;have e1:(eW s 40).top=x:=(congrArg Run.top e0).trans (Run.top_wd _ _ _);have e2:(eW s 40).pop=(eW s 40).wd l:=(congrArg Run.pop e0).trans (Run.pop_wd _ _ _);have em:vY s 40 nn=((eW s 40).wd l).wpc x:=by
  have:vY s 40 nn=(eW s 40).pop.wpc (eW s 40).top:=rfl;rw[this,e1,e2]
 have e3:(w.Ig.1== -1)=false:=by have:=k3.1;simp;omega
 refine lV (R':=((eW s 40).wd l).wpc x) hs hp ho em rfl rfl (show 1≤s.d.length by omega) (ax _) (show s.d.length+0≤16+1 by omega) q2 (k2.wtg _).Ih (hf.app (w':=(w.Ig.2.wtg w.Ig.1).Ih) k5 rfl) ?_ (Or.inr k3) (fun h=>absurd h (by decide)) rfl;show x=bif(dc w.branch s.flags).1 then _ else bif w.Ig.1== -1 then _ else dV D R w.Ig.2.code w.Ig.1
 rw[hb,e3,k4];rfl
end
theorem B6{w0:World}{S:List Nat}{cs:List bJ}{e sz n c b:Nat}{ad:Addr}{xs vs:List Value}(hc:Has cs (slv e sz (some ad) n c xs))(hv:∀j v,vs[j]? =some v→xs[b+j]? =some v):∀w,Inv w0 S cs w→cells (eP (ad.add b) 0 vs) w:=fun w hi=>
 j9 fun j v hj=>by
  rw[Nat.add_zero];exact(hi.rd hc).at_ ad rfl (b+j) v (hv j v hj)
end Go.Ink
namespace Go.Proofs.YtakodpimdalajaaGreatDoor
open Go.RowKit Go.Ink Go.Proofs.Tryz
attribute [local irreducible] OpY bU
theorem Eh(A A2:Option Addr)(c c2:Nat)(xs ys:List Int)(hx:u8s xs)(hy:u8s ys)(w:World)(h:Rd w .u8 A xs.length c xs)(h2:Rd w .u8 A2 ys.length c2 ys):
  Ctr prog 161 [.slice A xs.length c,.slice A2 ys.length c2] w [] (fun v cs=>v= .bool (xs==ys)∧cs=[]):=by
 refine bL func161 rfl ntmps161 rfl (Inv.start w) ?_;refine Z_8 ?_;refine jf (fun w hi=>Hg (h.Iy hi)) (fun hrd6=>?_);refine dX (G3 rfl rfl rfl Zv0 hrd6) (fun w hi=>RdV.I9 (h.Iy hi)) rfl ?_;refine ZA ?_;refine jf (fun w hi=>Hg (h2.Iy hi)) (fun hrd8=>?_);refine dX (G3 rfl rfl rfl Zv0 hrd8) (fun w hi=>RdV.I9 (h2.Iy hi)) rfl ?_;refine Zy (G0 rfl (Zv rfl) (Zv rfl) (EZ hx hy)) ?_;refine Z_4 ?_;refine Zra ?_;exact⟨rfl,rfl⟩
end Go.Proofs.YtakodpimdalajaaGreatDoor
