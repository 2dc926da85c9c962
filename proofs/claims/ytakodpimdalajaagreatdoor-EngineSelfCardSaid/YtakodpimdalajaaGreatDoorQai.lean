/- Lemmas. -/
import Derived.Test.YtakodpimdalajaaGreatDoorQaa
import Derived.Test.YtakodpimdalajaaGreatDoorQab
import Derived.Test.YtakodpimdalajaaGreatDoorQag
import Derived.Test.YtakodpimdalajaaGreatDoorQah
set_option linter.unusedSimpArgs false
set_option linter.unusedVariables false
set_option maxRecDepth 100000
set_option maxHeartbeats 4000000
namespace Go.Ink
open Go.RowKit
abbrev insV(o:Option ((Int×Int)×Nat)):List Value:=[.int .i64 ((o.map (·.1.1)).getD 0),.int .u32 ((o.map (·.1.2)).getD 0)]
abbrev insN(o:Option ((Int×Int)×Nat)):Nat:=(o.map (·.2)).getD 0
theorem u7{op:Int}(l:List Int)(h:cz op=0):dU (op::l)=none:=by
 have e:(cz op==0)=true:=by rw[h];rfl
 show(bif cz op==0 then none else _)=none;rw[e]
 rfl
theorem sw{op:Int}{l:List Int}(h:(l.length:Int)+1<cz op):dU (op::l)=none:=by
 unfold dU;simp only[aB h,ac,Bool.cond_self]
theorem oA{op:Int}{l:List Int}{z:Nat}(h0:cz op=((z+1:Nat):Int))(h:z≤l.length):dU (op::l)=some ((op,w6 (l.take z)),z+1):=by
 have e1:(cz op==0)=false:=by rw[h0,beq_eq_false_iff_ne];omega
 have e2:decide ((l.length:Int)+1<cz op)=false:=aD (by rw[h0];omega)
 show(bif cz op==0 then none else bif decide ((l.length:Int)+1<cz op)then none else some ((op,w6 (l.take ((cz op).toNat - 1))),(cz op).toNat))=_;rw[e1,aa,e2,aa,h0]
 rfl
theorem CV{l:List Int}{z k:Nat}{x:Int}(hk:k<z)(hx:l[k]? =some x):w6 ((l.take z).drop k)=x+256*w6 ((l.take z).drop (k+1)):=by
 have hx':(l.take z)[k]? =some x:=by rw[List.getElem?_take,if_pos hk];exact hx
 obtain⟨hlt,he⟩:=au.1 hx';rw[List.drop_eq_getElem_cons hlt,he]
 rfl
end Go.Ink
namespace Go.Proofs.YtakodpimdalajaaGreatDoor
open Go.RowKit Go.Ink Go.Proofs.Tryz
attribute [local irreducible] OpY bU
theorem wJ(A:Option Addr)(c:Nat)(b:List Int)(hb:u8s b)(w:World)(h:Rd w .u8 A b.length c b):
  Ctr prog 138 [.slice A b.length c] w [] (fun v cs=>(∃y,v= .tuple #[.agg (insV (dU b)).toArray,.int .i64 (insN (dU b):Int),.int .i64 y]∧(y==0)=(dU b).isSome)∧cs=[]):=by
 have hlm:b.length≤maxLen:=a9 h.cap h.max;simp only[maxLen]at hlm;cases b with
 |nil=>
  refine bL func138 rfl ntmps138 rfl (Inv.start w) ?_;refine Z_2 ?_;refine ZN fun b2=>?_;refine gQ ?_;refine cn rfl (rfl) ?_;refine Z_3 ?_;refine ZM ?_;refine Z_6 ?_;refine zZ (cs':=[]) (.inl rfl) Zu rfl rfl rfl rfl Zh Zrf Zrf ?_;exact⟨⟨10,rfl,rfl⟩,rfl⟩
 |cons op l=>
  have hop:=hb op (by simp);have hl:u8s l:=fun x hx=>hb x (bA _ hx)
  have hlen:(op::l).length=l.length+1:=rfl;obtain⟨ad,rfl⟩:=h.some_ (by rw[hlen];omega);have hz5:cz op=0∨cz op=1∨cz op=2∨cz op=5:=ja op;have HS:=tZ op;have hn0:0≤cz op:=by omega
  obtain⟨z0,hz0⟩:∃z:Nat,cz op=z:=ar hn0;have E0:=u7 (op:=op) l;have E1:=sw (op:=op) (l:=l);have E2:=fun z h1 h2=>oA (op:=op) (l:=l) (z:=z) h1 h2
  rw[hz0]at hz5 HS E0 E1 E2;have hz6:z0≤5:=by omega
  refine bL func138 rfl ntmps138 rfl (Inv.start w) ?_;refine Z_2 ?_;refine ZN fun b2=>?_;refine gQ ?_;refine bV rfl ((beq_eq_false_iff_ne.2 (by rw[hlen];omega))) ?_;refine Z_5 ?_;refine Zy (dx (j:=0) rfl Zrf (Zv rfl) (Zv rfl) (fun _=>by omega) (fun _=>by omega)) ?_;refine dX (bO Zrf Zv0) (fN h (cZ (l:=op::l) (j:=0) rfl)) rfl ?_;refine Zy (ce rfl rfl Zv0 Zl) ?_;refine ZA ?_;refine ZN fun b5=>?_
  refine ZM ?_;refine Z_6 ?_;refine ZSe (fun w hi=>HS w) ?_;refine gQ ?_;refine ZW ?_ ?_<;>intro hc5
  ·rw[E0 (jS hc5)];refine Z_3 ?_;refine ZM ?_;refine Z_7 ?_;refine zZ (cs':=[]) (.inl rfl) Zu rfl rfl rfl rfl Zh Zrf Zrf ?_;exact⟨⟨12,rfl,rfl⟩,rfl⟩
  have hz1:1≤z0:=(by have:=ne_of_beq_false hc5;omega);refine Z_9 ?_;refine ZW ?_ ?_<;>intro hc7
  ·simp only[ap]at hc7;rw[E1 (by rw[hlen]at hc7;omega)];refine Z_3 ?_;refine ZM ?_;refine Z_7 ?_;refine zZ (cs':=[]) (.inl rfl) Zu rfl rfl rfl rfl Zh Zrf Zrf ?_;exact⟨⟨10,rfl,rfl⟩,rfl⟩
  simp only[aj]at hc7;obtain⟨z,rfl⟩:∃z,z0=z+1:=⟨z0 - 1,by omega⟩;have hzl:z≤l.length:=(by rw[hlen]at hc7;omega);rw[E2 z rfl hzl];have htl:(l.take z).length=z:=(by rw[aF];omega);have hrng:∀k,0≤w6 ((l.take z).drop k)∧w6 ((l.take z).drop k)<((256^(z - k):Nat):Int):=fun k=>(by have h1:=uM (l:=(l.take z).drop k) (fun x hx=>hl x (List.mem_of_mem_take (List.mem_of_mem_drop hx)));rwa[bn,htl]at h1)
  obtain⟨N,hN⟩:∃N:Nat→Int,(fun k=>w6 ((l.take z).drop k))=N:=⟨_,rfl⟩;have hN0:N 0=w6 (l.take z):=(by rw[←hN];rfl);have hNz:N z=0:=(by rw[←hN];show w6 ((l.take z).drop z)=0;rw[List.drop_of_length_le (by omega)];rfl);have hNs:∀k x,k<z→l[k]? =some x→N k=x+256*N (k+1):=(fun k x h1 h2=>by rw[←hN];exact CV h1 h2);have hNr:∀k,0≤N k∧N k<((256^(z - k):Nat):Int):=(fun k=>by rw[←hN];exact hrng k);rw[←hN0];refine Z_6 ?_;refine lp ([row b2 [.int .i64 0,.int .u32 0] 24,row b5 [.int .i64 op,.int .u32 0] 24]) Zj ?_;rw[show row b5 [Value.int .i64 op,Value.int .u32 0] 24=row b5 [Value.int .i64 op,Value.int .u32 (N z)] 24 from by rw[hNz]];refine ZA ?_;refine Zy (eT (Zv rfl) (Zv rfl) (show _=(z:Int)from by rw[IntWalk.i64_in _ ⟨by omega,by omega⟩];omega)) ?_;refine Z_4 ?_;refine cG (fun k:Nat=>[(0,.slice (some ad) (op::l).length c),(2,.pointer (some ⟨b2,0,none⟩)),(5,.pointer (some ⟨b5,0,none⟩)),(6,.int .i64 ((z+1:Nat):Int)),(7,.int .i64 (k:Int))]) (fun k=>[row b2 [.int .i64 0,.int .u32 0] 24,row b5 [.int .i64 op,.int .u32 (N k)] 24]) (fun k=>k≤z) (fun k=>k) (z) ?_ ?_ ?_ ?_
  ·exact aS _
  ·exact Zwk
  ·exact Zu
  rintro k hk;refine Z_7 ?_;refine ZW ?_ ?_<;>intro hc10
  ·simp only[ap]at hc10;obtain⟨k,rfl⟩:∃m,k=m+1:=⟨k - 1,by omega⟩;have hx:l[k]? =some (l[k]'(by omega)):=ao (by omega);have hxb:=hl _ (List.getElem_mem (show k<l.length by omega));obtain⟨x,hxx⟩:=Zgn (l[k]'(by omega));rw[hxx]at hx hxb;have hst:=hNs k x (by omega) hx;have hr:=hNr (k+1);have hp:(256^(z - (k+1)):Nat)≤256^3:=Nat.pow_le_pow_right (by decide) (by omega);have hp2:((256^(z - (k+1)):Nat):Int)≤16777216:=(by have e:(256^3:Nat)=16777216:=(by decide);omega);have hor:=shl8_or hr.1 (by omega) hxb;refine Z_4 ?_;refine bX ⟨fun j=>List.elem j [10],[]⟩ Zk ?_;refine ZFe 0 1 ?_;refine ZG 1 ?_;refine cN 2 rfl Zk Zk Zk (tS (Zv rfl) (Zv rfl) (by omega) rfl) rfl ?_;refine ZE 3 ?_;refine ZE 4 ?_;refine cN 5 rfl Zk Zk Zk (dx (j:=k+1) rfl Zrf (Zv rfl) (Zv rfl) (fun _=>by omega) (fun _=>by omega)) rfl ?_;refine eX 6 rfl Zk Zk Zk Zk (bO Zrf Zv0) (fN h (cZ (l:=op::l) (j:=k+1) hx)) rfl ?_;refine cN 7 rfl Zk Zk Zk (ce rfl rfl (Zv rfl) (by first|exact IntWalk.u32_in _ ⟨by omega,by omega⟩|exact rfl)) rfl ?_;refine cN 8 rfl Zk Zk Zk (sb (Zv rfl) (Zv rfl) (show _=N k from by rw[hst];exact hor)) rfl ?_;refine ZFe 9 1 ?_;refine cw 10 Zk ?_;refine ZQ ?_;refine bN Zk ?_;refine Z_4 ?_;refine Zy (eT (Zv rfl) (Zv rfl) (show _=(k:Int)from by rw[IntWalk.i64_in _ ⟨by omega,by omega⟩];omega)) ?_;refine Z_2 ?_;refine ez (k) ?_ ?_ ?_
   ·exact⟨show k≤z by omega,show k<k+1 by omega⟩
   ·exact Zwk
   exact Zu
  simp only[aj]at hc10;obtain rfl:k=0:=(by omega);refine Z_9 ?_;refine ZM ?_;refine Z_5 ?_;refine zZ (cs':=[]) (.inl rfl) Zu rfl rfl rfl rfl Zh Zrf Zrf ?_;exact⟨⟨0,rfl,rfl⟩,rfl⟩
end Go.Proofs.YtakodpimdalajaaGreatDoor
namespace Go.Ink
open Go.RowKit
theorem AP{n:Nat}{M:Mem}{p:Nat}(h:n≤p/64):eI n M p=none:=by
 unfold eI;rw[aD (by omega)]
 rfl
theorem AQ{n:Nat}{M:Mem}{p:Nat}(h:p/64<n):eI n M p=dU (((M.data.drop (p/64*64)).take 64).drop (p%64)):=by
 unfold eI;rw[aB h]
 rfl
theorem AX{w:World}{b j:Nat}{X:List Int}(h:Rd w .u8 (some ⟨b,0,none⟩) 64 64 X)(hj:j<64)(hX:X.length=64):Rd w .u8 (some ⟨b,j,none⟩) (64 - j) (64 - j) (X.drop j):=by
 have h5:=RdV.cut h (lo:=j) (hi:=64) (by omega) (aS _);rw[if_neg (by omega),Option.map_some,Addr.add_lit,bl,Nat.mul_one]at h5;have e:(ints .u8 X).take 64=ints .u8 X:=List.take_of_length_le (by simp[ints,hX]);rw[e]at h5;have e2:(ints .u8 X).drop j=ints .u8 (X.drop j):=by simp[ints]
 rwa[e2]at h5
abbrev oC(b:GY)(X:hI):List Value:=b.s.cells (.slice X.Ad b.s.d.length X.cd) (.slice X.Ar b.s.r.length X.cr)++[.int .u32 b.place,.bool b.runs]
end Go.Ink
namespace Go.Proofs.YtakodpimdalajaaGreatDoor
open Go.RowKit Go.Ink Go.Proofs.Tryz
attribute [local irreducible] OpY bU
theorem zY(L:gR)(M:Mem)(p:Nat)(hp:L.n≤p)(w:World)(h:(eL L M).ok w):Ctr prog 94 [.pointer (some ⟨L.bm,0,none⟩),.int .i64 p] w [] (fun v cs=>v= .tuple #[.slice none 0 0,.bool false]∧cs=[]):=by
 obtain⟨n1,n64,hdl,hdb,htl⟩:=lc h;obtain⟨k0,hr0,h1,h2,h3,h4⟩:=nQ h;refine bL func94 rfl ntmps94 rfl (Inv.start w) ?_;refine eu ?_;rw[aD (show¬(p:Int)<0 by omega)];refine Z_5 ?_;refine kK (cD rfl rfl) (bO Zrf (dQ rfl)) (dL (by assumption) rfl) rfl ?_;refine jm (cD rfl rfl) rfl (gU rfl (fun _ _=>rfl) (fun w hi=>qe L.bt L.bp L.o L.bf L.bg L.n w (bJ.old h2 hi))) rfl ?_;rintro _ _ ⟨_,⟨rfl,rfl⟩,rfl⟩;refine Z_4 ?_;refine cn rfl ((by rw[aB (show(L.n:Int)≤p by omega)];rfl)) ?_;refine Z_8 ?_;refine ft (cs':=[]) (.inl rfl) Zu rfl rfl rfl ?_;exact⟨rfl,rfl⟩
theorem Gs(bu bb:Nat)(L:gR)(M:Mem)(p:Nat)(hp:p≤4294967295)(w:World)(hu:(EK bu L.bm bb).ok w)(h:(eL L M).ok w):
  Ctr prog 98 [.pointer (some ⟨bu,0,none⟩),.int .u32 (p:Int)] w [] (fun v cs=>v= .tuple #[.agg (insV (eI L.n M p)).toArray,.int .i64 (insN (eI L.n M p):Int),.bool (eI L.n M p).isSome]∧cs=[]):=by
 obtain⟨n1,n64,hdl,hdb,htl⟩:=lc h;have hq:IntKind.u32.wrap ((p:Int).tdiv 64)=((p/64:Nat):Int):=by rw[bC (by omega),u32_wrap_id _ (by omega) (by omega)];omega
 have hrm:(p:Int).tmod 64=((p%64:Nat):Int):=by rw[aW (by omega)];omega
 by_cases hpn:p/64<L.n
 ·have HP:=ug L M (p/64) hpn;rw[AQ hpn];have hXl:((M.data.drop (p/64*64)).take 64).length=64:=by rw[aF,bn];omega
  have hXb:u8s ((M.data.drop (p/64*64)).take 64):=fun x hx=>hdb x (List.mem_of_mem_drop (List.mem_of_mem_take hx))
  obtain⟨X,hX⟩:=Zgn ((M.data.drop (p/64*64)).take 64);rw[hX]at HP hXl hXb⊢;have hbl:(X.drop (p%64)).length=64 - p%64:=by rw[bn,hXl]
  have HD:=fun A c w h=>wJ A c (X.drop (p%64)) (fun x hx=>hXb x (List.mem_of_mem_drop hx)) w h
  rw[hbl]at HD;obtain⟨o,ho⟩:=Zgn (dU (X.drop (p%64)));rw[ho]at HD⊢;refine bL func98 rfl ntmps98 rfl (Inv.start w) ?_;refine Z_2 ?_;refine ZN fun b4=>?_;refine eu ?_;refine bV rfl (rfl) ?_;refine Z_5 ?_;refine ZSe (fun w hi=>kL bu L.bm bb w (bJ.old hu hi)) ?_;refine ZA ?_;refine Zy (kb (Zv rfl) (Zv rfl) (by omega) hq) ?_;refine Zy (ce rfl rfl Zv0 Zl) ?_;refine ZS (fun w hi=>HP w (bJ.old h hi)) ?_;rintro _ _ ⟨_,⟨bq,rfl,rfl⟩,rfl⟩;refine iG ?_;refine bV rfl (rfl) ?_;refine Z_6 ?_;refine Zy (kp (Zv rfl) (Zv rfl) (by omega) hrm) ?_;refine Zy (iX (sz:=1) (lo:=p%64) (hi:=64) (r:=p%64) rfl Zrf (Zv rfl) (.inr ⟨_,_,rfl,(Zv rfl)⟩) (.inl ⟨rfl,rfl⟩) (by omega) (by omega) (by omega) (by omega)) ?_;refine ZS (fun w hi=>HD (some ⟨bq,p%64,none⟩) (64 - p%64) w (AX (hi.rd (show Has _ (sl .u8 5 (some ⟨bq,0,none⟩) 64 64 X)from Zh)) (by omega) hXl)) ?_;rintro _ _ ⟨_,⟨⟨y,rfl,hy⟩,rfl⟩,rfl⟩;refine Z_4 ?_;refine ZN fun b9=>?_
  refine ZM ?_;refine Z_9 ?_;refine Zy (qp (Zv rfl) (Zv rfl) hy) ?_;refine ZM ?_;refine Z_5 ?_;refine zZ (cs':=[]) (.inl rfl) Zu rfl rfl rfl rfl Zh Zrf Zrf ?_;exact⟨rfl,rfl⟩
 have HP:=zY L M (p/64) (by omega);rw[AP (by omega)];refine bL func98 rfl ntmps98 rfl (Inv.start w) ?_;refine Z_2 ?_;refine ZN fun b4=>?_;refine eu ?_;refine bV rfl (rfl) ?_;refine Z_5 ?_;refine ZSe (fun w hi=>kL bu L.bm bb w (bJ.old hu hi)) ?_;refine ZA ?_;refine Zy (kb (Zv rfl) (Zv rfl) (by omega) hq) ?_;refine Zy (ce rfl rfl Zv0 Zl) ?_;refine ZSe (fun w hi=>HP w (bJ.old h hi)) ?_;refine iG ?_;refine cn rfl (rfl) ?_;refine Z_3 ?_;refine ZM ?_;refine Z_6 ?_;refine zZ (cs':=[]) (.inl rfl) Zu rfl rfl rfl rfl Zh Zrf Zrf ?_;exact⟨rfl,rfl⟩
theorem next_ok(op nn:Int)(r:Res)(X:hI)(Ap:Option Addr)(cp:Nat)(Iq was:Int)(hpc:u32 r.s.pc)(hw:u32 was)(w:World)(h:Rd w .i64 Ap r.H8.length cp r.H8):
  Ctr prog 100 [.agg #[.int .i64 op,.int .u32 nn],.agg (kP r X Ap cp).toArray,.int .i64 Iq,.int .u32 was] w [] (fun v cs=>v= .bool (kz op r Iq was)∧cs=[]):=by
 have HC:=rP Ap cp r.H8 Iq;have hq:∀x:Int,u32 x→IntKind.u32.wrap (x.tdiv 64)=x/64:=fun x hx=>by obtain⟨h1,h2⟩:=hx;rw[bC h1,u32_wrap_id _ (by omega) (by omega)]
 refine bL func100 rfl ntmps100 rfl (Inv.start w) ?_;refine Z_2 ?_;refine ZO fun b4=>?_;refine ZO fun b5=>?_
 refine Z_8 ?_;refine ZSe (fun w hi=>uS op w) ?_;refine vg ?_;refine eH (cD rfl rfl) (.cons (dQ rfl) (.cons (dQ rfl) .nil)) (fun _ _=>rfl) (fun hg w hi=>HC w (RdV.Iy h hi)) rfl ?_;refine Z_3 ?_;refine ZW ?_ ?_<;>intro hc1
 ·refine Z_7 ?_;refine Zra ?_;exact⟨by unfold kz;rw[hc1];rfl,rfl⟩
 refine Z_7 ?_;refine Zy (kb (Zv rfl) (Zv rfl) (by omega) (hq _ hpc)) ?_;refine ZA ?_;refine Zy (kb (Zv rfl) (Zv rfl) (by omega) (hq _ hw)) ?_;refine Z_5 ?_;refine Zra ?_;exact⟨by unfold kz;rw[hc1];rfl,rfl⟩
end Go.Proofs.YtakodpimdalajaaGreatDoor
namespace Go.Ink
open Go.RowKit
theorem s8{b:Nat}:∀{m k x:Nat},uK b k m=some x→x<k+m
 |0,_,_,h=>by cases h
 |m+1,k,x,h=>by
  unfold uK at h;cases hc:(b/2^k%2==1)with
  |true=>rw[hc,ac]at h;obtain rfl:=aG h;omega
  |false=>rw[hc,aa]at h;have:=s8 h;omega
theorem low_lt{b x:Nat}(h:nR b=some x):x<8:=by have:=s8 h;omega
structure Dev.lines(d:Dev):Prop where
 mask:0≤d.mask∧d.mask≤255
theorem H4{p m:Int}(hm:0≤m∧m≤255):∃x:Nat,bits .and .u32 p m=(x:Int)∧x<256:=by
 unfold bits;simp only;rw[aE];have hmt:(BitVec.ofInt IntKind.u32.bits m).toNat≤255:=by
  rw[BitVec.toNat_ofInt];have:(m%((2^IntKind.u32.bits:Nat):Int))=m:=Int.emod_eq_of_lt hm.1 (by have:((2^IntKind.u32.bits:Nat):Int)=4294967296:=rfl;omega);rw[this];omega
 have h1:=Nat.and_le_right (n:=(BitVec.ofInt IntKind.u32.bits p).toNat) (m:=(BitVec.ofInt IntKind.u32.bits m).toNat);refine⟨(BitVec.ofInt IntKind.u32.bits p&&&BitVec.ofInt IntKind.u32.bits m).toNat%4294967296,?_,?_⟩
 ·simp
 rw[BitVec.toNat_and];omega
theorem tE{n:Nat}{s:St}{U:Mmu}{d:Dev}(h:(!s.right||s.halted)=true):et n s U d=⟨s,0,false,U,d⟩:=by
 unfold et;rw[h]
 rfl
theorem tG{n:Nat}{s s1:St}{U:Mmu}{d d1:Dev}(h:(!s.right||s.halted)=false)(hd:d.tick s.count=d1)(hs:told s d1=s1):et n s U d=rX n s1 U d1:=by
 unfold et;rw[h,hd,hs]
 rfl
theorem EN{s:St}{d:Dev}{x k:Nat}(hx:bits .and .u32 d.Iu d.mask=(x:Int))(ho:nR x=some k)(hie:s.ie=true):told s d=s.Io ((16+k:Nat):Int) 0:=by
 unfold told F8;rw[hx,aQ,ho];show(bif s.ie then _ else _)=_;rw[hie]
 rfl
theorem told_no{s:St}{d:Dev}{x:Nat}(hx:bits .and .u32 d.Iu d.mask=(x:Int))(h:((nR x).isSome&&s.ie)=false):told s d=s:=by
 unfold told F8;rw[hx,aQ];cases ho:nR x with
 |none=>rfl
 |some k=>
  rw[ho]at h;show(bif s.ie then _ else _)=_;cases hie:s.ie with
  |true=>rw[hie]at h;cases h
  |false=>rfl
end Go.Ink
namespace Go.Proofs.YtakodpimdalajaaGreatDoor
open Go.RowKit Go.Ink Go.Proofs.Tryz
attribute [local irreducible] OpY bU
theorem GP(bu bb:Nat)(L:gR)(D:rZ)(Y:jV)(s:St)(hwf:s.wf)(Ad Ar:Option Addr)(cd cr:Nat)(U:Mmu)(hT:U.t.length=16)(d:Dev)(hm:(d.tick s.count).lines)(w:World)(hi:Inv w (bK (ubF bu bb L D Y U d)) (ubF bu bb L D Y U d) w)
  (h:∀w',dR (bK (ubF bu bb L D Y U d)) w w'→px w' s Ad Ar cd cr) (ht:∀w',dR (bK (ubF bu bb L D Y U d)) w w'→mG w'):
  Ctr prog 43 [sv s Ad cd Ar cr,.pointer (some ⟨bu,0,none⟩),.pointer (some ⟨D.bs,0,none⟩)] w (ubF bu bb L D Y U d)
   (fun v cs=>∃X,v= .agg (oC (et L.n s U d) X).toArray∧cs=[slD (et L.n s U d).s X.Ad X.cd,slR (et L.n s U d).s X.Ar X.cr]++ubF bu bb L D Y (et L.n s U d).u (et L.n s U d).d):=by
 have HR:=nJ s Ad Ar cd cr;have HR2:=nJ s;cases hrh:(!s.right||s.halted)with
 |true=>
  rw[tE hrh];obtain⟨rt,hrt⟩:=Zgn (s.right);rw[hrt]at HR2 hrh;refine bL func43 rfl ntmps43 rfl hi ?_;refine Z_2 ?_;refine ZO fun b3=>?_;refine ZN fun b6=>?_
  refine Z_5 ?_;refine ZS (fun w hi=>jP s Ad Ar cd cr w (h w hi.Iz)) ?_;rintro _ _ ⟨_,⟨A1,c1,A2,c2,rfl,rfl⟩,rfl⟩;refine ZM ?_;refine Z_6 ?_;refine ZSe (fun w hi=>HR2 A1 A2 c1 c2 w) ?_;refine qo ?_;refine cn rfl ((by rw[hrh];rfl)) ?_;refine Z_4 ?_;refine ZM ?_;refine Z_4 ?_;refine bP ([row b6 (oC ⟨s,0,false,U,d⟩ ⟨A1,c1,A2,c2⟩) 102,slD s A1 c1,slR s A2 c2]++ubF bu bb L D Y U d) Zj ?_;refine mS (cs':=([slD s A1 c1,slR s A2 c2]++ubF bu bb L D Y U d)) (.inl rfl) Zu rfl rfl Zh Zrf Zrf ?_;exact⟨⟨A1,c1,A2,c2⟩,rfl,rfl⟩
 |false=>
  simp only[bj,Bool.not_eq_false']at hrh;obtain⟨hr,hh⟩:=hrh;obtain⟨hd16,hr16,hf15⟩:=St.fits hr;obtain⟨d1,hd1⟩:=Zgn (d.tick s.count);obtain⟨s1,hs1⟩:=Zgn (told s d1);rw[tG (by rw[hr,hh];rfl) hd1 hs1];rw[hd1]at hm;obtain⟨x,hx,hx256⟩:=H4 (p:=d1.Iu) hm.mask;have HN:=AF D.bi x d1.Iu d1.mask hx hx256;have HK:=tick_ok D L.bm Y d s.count;rw[hd1]at HK;have hY:=fun k h1 h2=>EN (s:=s) (d:=d1) (x:=x) (k:=k) hx h1 h2
  have hN:=told_no (s:=s) (d:=d1) (x:=x) hx;have hlt:=fun k (h:nR x=some k)=>low_lt h
  obtain⟨o,ho⟩:=Zgn (nR x);rw[ho]at HN hY hN hlt;have hw1:s1.wf∧s1.d.length≤16∧s1.r.length≤16:=by
   cases hc:(o.isSome&&s.ie)with
   |true=>
    cases o with
    |none=>cases hc
    |some k=>
     have hie:s.ie=true:=hc;rw[←hs1,hY k rfl hie];exact⟨⟨hwf.vec,hwf.flags,hwf.root,hwf.vec,hwf.pc,gy _,u0,hwf.count,hwf.d,hwf.r⟩,hd16,hr16⟩
   |false=>rw[←hs1,hN hc];exact⟨hwf,hd16,hr16⟩
  obtain⟨hwf1,hs16,hq16⟩:=hw1;refine bL func43 rfl ntmps43 rfl hi ?_;refine Z_2 ?_;refine ZO fun b3=>?_;refine ZN fun b6=>?_
  refine Z_5 ?_;refine ZS (fun w hi=>jP s Ad Ar cd cr w (h w hi.Iz)) ?_;rintro _ _ ⟨_,⟨A1,c1,A2,c2,rfl,rfl⟩,rfl⟩;refine ZM ?_;refine Z_6 ?_;refine ZSe (fun w hi=>HR2 A1 A2 c1 c2 w) ?_;refine qo ?_;refine bV rfl ((by rw[hr,hh];rfl)) ?_;refine Z_7 ?_;refine ZcM (m7 D L.bm Y d) (fun w hi hin=>HK w hin) ?_;refine Z_2 ?_;refine cS (fun X:hI=>[(1,.pointer (some ⟨bu,0,none⟩)),(3,.pointer (some ⟨b3,0,none⟩)),(6,.pointer (some ⟨b6,0,none⟩))]) (fun X=>[row b3 (s1.cells (.slice X.Ad s1.d.length X.cd) (.slice X.Ar s1.r.length X.cr)) 44,row b6 (oC ⟨St.zero,0,false,U,d⟩ ⟨none,0,none,0⟩) 102,slD s1 X.Ad X.cd,slR s1 X.Ar X.cr]++ubF bu bb L D Y U d1) (fun _=>True) ?_ ?_
  ·refine Z_6 ?_;refine ZSe (fun w hi=>HN w (hi.get Zh) (ht w hi.Iz)) ?_;refine qn ?_;refine ZW ?_ ?_<;>intro hc6
   ·obtain⟨k,rfl⟩:∃k,o=some k:=(by cases o with|none=>cases hc6|some k=>exact⟨k,rfl⟩);have hk8:=hlt k rfl;obtain rfl:s1=s.Io ((16+k:Nat):Int) 0:=(by rw[←hs1];exact hY k rfl hc6);refine Z_3 ?_;refine Zy (cy (Zv rfl) (Zv rfl) (show _=((16+k:Nat):Int)from by rw[IntWalk.i64_in _ ⟨by show -9223372036854775808≤(16:Int)+((k:Nat):Int);omega,by show(16:Int)+((k:Nat):Int)≤9223372036854775807;omega⟩];show(16:Int)+((k:Nat):Int)=_;omega)) ?_;refine ZS (fun w hi=>qz s A1 A2 c1 c2 ((16+k:Nat):Int) 0 w (hi.rdSt (show Has _ (slD s A1 c1)from Zh) (show Has _ (slR s A2 c2)from Zh) (by omega) (by omega))) ?_;rintro _ _ ⟨_,⟨A3,c3,A4,c4,rfl,rfl⟩,rfl⟩;refine ZM ?_;refine Zn ?_;refine cq ((⟨A3,c3,A4,c4⟩:hI)) ?_ ?_ ?_
    ·trivial
    ·exact Zwk
    exact Zj
   obtain rfl:s1=s:=(by rw[←hs1];exact hN hc6);refine Zc ?_;refine cq ((⟨A1,c1,A2,c2⟩:hI)) ?_ ?_ ?_
   ·trivial
   ·exact Zwk
   exact Zj
  rintro⟨A5,c5,A6,c6⟩ -;clear hY hN hs1;obtain⟨pc,dd,rr,fl,su,pg,ie,rt,ve,ep,ca,ad,es,ei,co,ha⟩:=s1;obtain⟨pcN,rfl⟩:∃m:Nat,pc=m:=ar hwf1.pc.1;obtain⟨rtN,rfl⟩:∃m:Nat,rt=m:=ar hwf1.root.1;have hpc2:=hwf1.pc.2;have hrt2:=hwf1.root.2;dsimp only at hpc2 hrt2 hs16 hq16;have HP:=nw bu bb L U hT ⟨pg,su,rtN⟩ (show rtN≤4294967295 by omega) pcN (by omega) 1;have hgo:rX L.n ⟨pcN,dd,rr,fl,su,pg,ie,rtN,ve,ep,ca,ad,es,ei,co,ha⟩ U d1=(bif(cR L.n U ⟨pg,su,rtN⟩ pcN 1).1.2.Ie !=0 then⟨St.Io (St.next ⟨pcN,dd,rr,fl,su,pg,ie,rtN,ve,ep,ca,ad,es,ei,co,ha⟩) (cR L.n U ⟨pg,su,rtN⟩ pcN 1).1.2.Ie (cR L.n U ⟨pg,su,rtN⟩ pcN 1).1.2.addr,0,false,(cR L.n U ⟨pg,su,rtN⟩ pcN 1).2,d1⟩else⟨⟨pcN,dd,rr,fl,su,pg,ie,rtN,ve,ep,ca,ad,es,ei,co,ha⟩,(cR L.n U ⟨pg,su,rtN⟩ pcN 1).1.1,true,(cR L.n U ⟨pg,su,rtN⟩ pcN 1).2,d1⟩):=rfl;obtain⟨⟨⟨pl,⟨tc,ta⟩⟩,U1⟩,hq⟩:=Zgn (cR L.n U ⟨pg,su,rtN⟩ pcN 1);rw[hq]at HP hgo;dsimp only at hgo;rw[hgo];refine gQ ?_;refine ZcM (uF bu bb L U) (fun w hi hin=>HP w hin) ?_;refine Z_3 ?_;refine ZN fun b10=>?_
  refine ZA ?_;refine ZM ?_;refine eJ ?_;refine ZW ?_ ?_<;>intro hc9
  ·rw[hc9,ac];refine Z_4 ?_;refine Zy (cy Zv0 Zv0 rfl) ?_;refine Z_1 ?_;refine ZL ?_;refine Z_9 ?_;refine ZS (fun w hi=>qz (St.next ⟨pcN,dd,rr,fl,su,pg,ie,rtN,ve,ep,ca,ad,es,ei,co,ha⟩) A5 A6 c5 c6 tc ta w (hi.rdSt (show Has _ (sl .u32 22 A5 dd.length c5 dd)from Zh) (show Has _ (sl .u32 22 A6 rr.length c6 rr)from Zh) (show dd.length*4≤_ by omega) (show rr.length*4≤_ by omega))) ?_;rintro _ _ ⟨_,⟨A7,c7,A8,c8,rfl,rfl⟩,rfl⟩;refine ZA ?_;refine ZM ?_;refine Z_4 ?_;refine bP ([row b6 (oC ⟨St.Io (St.next ⟨pcN,dd,rr,fl,su,pg,ie,rtN,ve,ep,ca,ad,es,ei,co,ha⟩) tc ta,0,false,U1,d1⟩ ⟨A7,c7,A8,c8⟩) 102,sl .u32 22 A7 dd.length c7 dd,sl .u32 22 A8 rr.length c8 rr]++ubF bu bb L D Y U1 d1) Zj ?_;refine mS (cs':=([sl .u32 22 A7 dd.length c7 dd,sl .u32 22 A8 rr.length c8 rr]++ubF bu bb L D Y U1 d1)) (.inl rfl) Zu rfl rfl Zh Zrf Zrf ?_;exact⟨⟨A7,c7,A8,c8⟩,rfl,rfl⟩
  rw[hc9,aa];refine Z_7 ?_;refine ZM ?_;refine Z_3 ?_;refine bP ([row b6 (oC ⟨⟨pcN,dd,rr,fl,su,pg,ie,rtN,ve,ep,ca,ad,es,ei,co,ha⟩,pl,true,U1,d1⟩ ⟨A5,c5,A6,c6⟩) 102,sl .u32 22 A5 dd.length c5 dd,sl .u32 22 A6 rr.length c6 rr]++ubF bu bb L D Y U1 d1) Zj ?_;refine mS (cs':=([sl .u32 22 A5 dd.length c5 dd,sl .u32 22 A6 rr.length c6 rr]++ubF bu bb L D Y U1 d1)) (.inl rfl) Zu rfl rfl Zh Zrf Zrf ?_;exact⟨⟨A5,c5,A6,c6⟩,rfl,rfl⟩
end Go.Proofs.YtakodpimdalajaaGreatDoor
namespace Go.Ink
open Go.RowKit
section
variable {n:Nat} {op nn:Int} {s:St} {U:Mmu} {d:Dev} {M:Mem} {R:Run}
theorem sr(h:d.lines)(k:Int)(v:Nat):(cU n M d k v).2.2.lines:=by
 have hz:0≤bits .and .u32 (v:Int) 255∧bits .and .u32 (v:Int) 255≤255:=by
  obtain⟨x,hx,hlt⟩:=H4 (p:=(v:Int)) (m:=255) ⟨by decide,by decide⟩;omega
 unfold cU fH;refine bM (fun q:Bool×Mem×Dev=>q.2.2.lines) ⟨h.mask⟩ ?_;refine bM (fun q:Bool×Mem×Dev=>q.2.2.lines) ⟨hz⟩ ?_;refine bM (fun q:Bool×Mem×Dev=>q.2.2.lines) ⟨h.mask⟩ ?_;refine bM (fun q:Bool×Mem×Dev=>q.2.2.lines) ⟨h.mask⟩ ?_;refine bM (fun q:Bool×Mem×Dev=>q.2.2.lines) ⟨h.mask⟩ ?_;refine bM (fun q:Bool×Mem×Dev=>q.2.2.lines) ⟨h.mask⟩ ?_;refine bM (fun q:Bool×Mem×Dev=>q.2.2.lines) ⟨h.mask⟩ ?_
 repeat (refine bM (fun q:Bool×Mem×Dev=>q.2.2.lines) h ?_)
 exact h
theorem u6(h:d.lines)(k count:Int):(du d k count).2.lines:=by
 unfold du
 repeat (first|exact h|refine bM (fun q:(Int×Bool)×Dev=>q.2.lines) ?_ ?_|exact⟨h.mask⟩)
theorem AB(h:d.lines)(va:Nat):(k9 n R U d va).d.lines:=by
 unfold k9;refine bM (fun m:ik=>m.d.lines) h ?_;exact bM (fun m:ik=>m.d.lines) (u6 h _ _) h
theorem zR(h:d.lines)(va v:Nat):(k8 n R U d va v).d.lines:=by
 unfold k8;refine bM (fun m:ik=>m.d.lines) h ?_;exact bM (fun m:ik=>m.d.lines) (sr h _ _) h
theorem xF{m:ik}(h:m.d.lines):(dS n op nn m).d.lines:=by
 unfold dS;refine bM (fun m:ik=>m.d.lines) (AB h _) ?_;refine bM (fun m:ik=>m.d.lines) (zR h _ _) ?_;refine bM (fun m:ik=>m.d.lines) h ?_;refine bM (fun m:ik=>m.d.lines) h ?_;refine bM (fun m:ik=>m.d.lines) h ?_;refine bM (fun m:ik=>m.d.lines) h ?_;refine bM (fun m:ik=>m.d.lines) h ?_;refine bM (fun m:ik=>m.d.lines) h ?_;refine bM (fun m:ik=>m.d.lines) h ?_;refine bM (fun m:ik=>m.d.lines) h ?_;refine bM (fun m:ik=>m.d.lines) h ?_;exact bM (fun m:ik=>m.d.lines) h h
theorem CD(h:d.lines):(kA n s op nn U d).d.lines:=by
 unfold kA;cases dK op nn (eW s op)with
 |some R=>exact h
 |none=>exact bM (fun m:ik=>m.d.lines) h (xF h)
theorem uZ(h:d.lines):(sq n s op nn U d).2.2.lines:=by
 unfold sq;refine bM (fun q:Res×Mmu×Dev=>q.2.2.lines) h ?_;exact bM (fun q:Res×Mmu×Dev=>q.2.2.lines) h (CD h)
theorem sI(h:d.lines)(c:Int):(d.tick c).lines:=by
 unfold Dev.tick;exact bM Dev.lines h ⟨h.mask⟩
theorem ER(h:d.ok)(c:Int):(d.tick c).ok∧(d.tick c).out=d.out:=by
 unfold Dev.tick;exact bM (fun q:Dev=>q.ok∧q.out=d.out) ⟨h,rfl⟩ ⟨⟨h.wf.re rfl rfl rfl rfl,hH .or d.Iu 1,h.mask,u0,h.status⟩,rfl⟩
theorem lY{b:List Int}(hb:u8s b){op nn:Int}{z:Nat}(h:dU b=some ((op,nn),z)):u32 nn∧1≤z∧z≤5∧z≤b.length:=by
 cases b with
 |nil=>cases h
 |cons o l=>
  have hc:cz o=0∨cz o=1∨cz o=2∨cz o=5:=ja o;unfold dU at h;cases h1:(cz o==0)with
  |true=>simp only[h1,ac]at h;cases h
  |false=>
   simp only[h1,aa]at h;cases h2:decide ((l.length:Int)+1<cz o)with
   |true=>simp only[h2,ac]at h;cases h
   |false=>
    simp only[h2,aa,aR,bz]at h;obtain⟨⟨rfl,rfl⟩,rfl⟩:=h;have h1:=ne_of_beq_false h1;simp only[aj]at h2;obtain⟨r1,r2⟩:=uM (l:=l.take ((cz o).toNat - 1)) (fun x hx=>hb x (bA _ (List.mem_of_mem_take hx)));have hl:(l.take ((cz o).toNat - 1)).length≤4:=by rw[aF];omega
    have hp:(256^(l.take ((cz o).toNat - 1)).length:Nat)≤256^4:=Nat.pow_le_pow_right (by decide) hl;have e4:(256^4:Nat)=4294967296:=by decide
    refine⟨⟨r1,by omega⟩,by omega,by omega,?_⟩;rw[ai];omega
theorem mX(hM:M.ok n){p:Nat}{op nn:Int}{z:Nat}(h:eI n M p=some ((op,nn),z)):u32 nn∧1≤z∧z≤5∧p/64<n∧p%64+z≤64:=by
 unfold eI at h;cases h1:decide (p/64<n)with
 |false=>rw[h1]at h;cases h
 |true=>
  rw[h1,ac]at h;obtain⟨a,b,c,e⟩:=lY (fun x hx=>hM.db x (List.mem_of_mem_drop (List.mem_of_mem_take (List.mem_of_mem_drop hx)))) h;refine⟨a,b,c,by simpa using h1,?_⟩;rw[bn,aF]at e;omega
end
structure GOk(n:Nat)(s:St)(U:Mmu)(d:Dev):Prop where
 wf:s.wf
 right:s.right=true
 u:UOk n U
 dv:d.ok
 lines:d.lines
theorem me(a b c:Int):IntKind.u64.wrap (IntKind.u64.wrap (a+b)+c)=IntKind.u64.wrap (a+(b+c)):=by
 rw[aU,aU,aU];omega
section
variable {n:Nat} {s:St} {U:Mmu} {d:Dev}
theorem Hl(h:s.wf):s.next.wf:=⟨h.pc,h.flags,h.root,h.vec,h.epc,h.Ie,h.addr,by show 0≤IntKind.u64.wrap _∧IntKind.u64.wrap _≤_;rw[aU];omega,h.d,h.r⟩
theorem BI(h:s.wf)(c:Int){a:Int}(ha:u32 a):(s.Io c a).wf:=⟨h.vec,h.flags,h.root,h.vec,h.pc,gy _,ha,h.count,h.d,h.r⟩
theorem BN(h:s.wf)(hr:s.right=true):(told s d).wf∧(told s d).right=true∧(told s d).count=s.count∧(told s d).halted=s.halted:=by
 unfold told;cases F8 d with
 |none=>exact⟨h,hr,rfl,rfl⟩
 |some k=>
  show(bif s.ie then s.Io _ _ else s).wf∧(bif s.ie then s.Io _ _ else s).right=true∧(bif s.ie then s.Io _ _ else s).count=s.count∧(bif s.ie then s.Io _ _ else s).halted=s.halted;cases s.ie with
  |true=>exact⟨BI h _ u0,hr,rfl,rfl⟩
  |false=>exact⟨h,hr,rfl,rfl⟩
structure BegOk(n:Nat)(s:St)(d:Dev)(b:GY):Prop where
 g:GOk n b.s b.u b.d
 place:u32 b.place
 out:b.d.out=d.out
 runs:b.runs=true→b.s.count=s.count∧b.s.halted=s.halted∧s.halted=false
 stays:b.runs=false→s.halted=false→b.s.count=IntKind.u64.wrap (s.count+1)∧b.s.halted=false
 held:s.halted=true→b=⟨s,0,false,b.u,b.d⟩
theorem pq(h:GOk n s U d):BegOk n s d (et n s U d):=by
 obtain⟨t1,t2⟩:=ER h.dv s.count;have t3:=sI h.lines s.count;obtain⟨w1,w2,w3,w4⟩:=BN (s:=s) (d:=d.tick s.count) h.wf h.right;cases hh:s.halted with
 |true=>
  rw[tE (by rw[hh,Bool.or_true])];exact⟨h,u0,rfl,fun e=>(by cases e),fun _ e=>(by rw[hh]at e;cases e),fun _=>rfl⟩
 |false=>
  rw[tG (by rw[h.right,hh];rfl) rfl rfl];rw[hh]at w4;obtain⟨s1,hs1⟩:=Zgn (told s (d.tick s.count));rw[hs1]at w1 w2 w3 w4⊢;unfold rX;have hpc:s1.pc.toNat≤4294967295:=by have:=w1.pc;unfold u32 at this;omega
  have p1:=kR h.u s1.space s1.pc.toNat 1;obtain⟨p2, -⟩:=i9 n U s1.space s1.pc.toNat hpc 1;have p3:=mn n U s1.space s1.pc.toNat hpc 1;obtain⟨⟨⟨pl,⟨tc,ta⟩⟩,U1⟩,hq⟩:=Zgn (cR n U s1.space s1.pc.toNat 1);rw[hq]at p1 p2 p3⊢;dsimp only at p1 p2 p3⊢;cases htc:(tc !=0)with
  |true=>
   rw[ac];exact⟨⟨BI (Hl w1) _ p3.1,w2,p1,t1,t3⟩,u0,t2,fun e=>(by cases e),fun _ _=>⟨by show IntKind.u64.wrap (s1.count+1)=_;rw[w3],w4⟩,fun e=>(by rw[hh]at e;cases e)⟩
  |false=>
   rw[aa];exact⟨⟨w1,w2,p1,t1,t3⟩,p2,t2,fun _=>⟨w3,w4.trans hh.symm,hh⟩,fun e=>(by cases e),fun e=>(by rw[hh]at e;cases e)⟩
structure Er(n k:Nat)(s:St)(d:Dev)(q:St×Mmu×Dev):Prop where
 g:GOk n q.1 q.2.1 q.2.2
 out:q.2.2.out.length≤d.out.length+k
 count:∃j:Nat,j≤k∧(1≤k→1≤j)∧q.1.count=IntKind.u64.wrap (s.count+(j:Int))
theorem vI(Iq:Nat):∀(k:Nat) {s:St} (p:Nat) {U:Mmu} {d:Dev},GOk n s U d→Er n k s d (fe n Iq k s p U d)
 |0,s,p,U,d,h=>⟨h,aS _,0,aS _,fun e=>(by omega),by
   show s.count=IntKind.u64.wrap (s.count+0);have:=h.wf.count;rw[aU];omega⟩
 |k+1,s,p,U,d,h=>by
  unfold fe;cases hf:eI n U.m p with
  |none=>exact⟨⟨BI (Hl h.wf) _ u0,h.right,h.u,h.dv,h.lines⟩,by show d.out.length≤_;omega,1,by omega,fun _=>aS _,rfl⟩
  |some o=>
   obtain⟨⟨op,nn⟩,z⟩:=o;obtain⟨f1, -⟩:=mX h.u.m hf;have hg:=u5 (op:=op) (nn:=nn) h.wf h.right f1 h.u h.dv;have hl:=uZ (n:=n) (op:=op) (nn:=nn) (s:=s) (U:=U) h.lines;obtain⟨⟨q,U1,d1⟩,hq⟩:=Zgn (sq n s op nn U d);rw[hq]at hg hl;obtain⟨g1,g2,g3,g4,g5,g6⟩:=hg;dsimp only at g1 g2 g3 g4 g5 g6 hl⊢;rw[hq];dsimp only;cases kz op q Iq s.pc with
   |false=>exact⟨⟨g1,g2,g4,g5,hl⟩,by show d1.out.length≤_;omega,1,by omega,fun _=>aS _,g3⟩
   |true=>
    obtain⟨r1,r2,j,r3,r4,r5⟩:=vI Iq k ((p+z)%4294967296) (s:=q.s) (U:=U1) (d:=d1) ⟨g1,g2,g4,g5,hl⟩;refine⟨r1,by show _≤_;exact a9 r2 (by omega),j+1,by omega,fun _=>by omega,?_⟩;show(fe n Iq k q.s ((p+z)%4294967296) U1 d1).1.count=_;rw[r5,g3,me,show(1:Int)+(j:Int)=((j+1:Nat):Int) by omega]
theorem po(h:GOk n s U d):Er n 8 s d (dg n s U d)∨(s.halted=true∧(dg n s U d).1=s∧GOk n (dg n s U d).1 (dg n s U d).2.1 (dg n s U d).2.2∧(dg n s U d).2.2.out=d.out):=by
 have hb:=pq h;unfold dg;obtain⟨b,hbe⟩:=Zgn (et n s U d);rw[hbe]at hb⊢;dsimp only;cases hr:b.runs with
 |true=>
  obtain⟨c1,c2,c3⟩:=hb.runs hr;have hq:=vI (b.place.toNat/64) 8 b.place.toNat hb.g;left;refine⟨hq.g,by have:=hq.out;rw[hb.out]at this;exact this,?_⟩;obtain⟨j,j1,j2,j3⟩:=hq.count;exact⟨j,j1,j2,by rw[←c1];exact j3⟩
 |false=>
  cases hh:s.halted with
  |false=>
   obtain⟨c1,c2⟩:=hb.stays hr hh;left;exact⟨hb.g,by show b.d.out.length≤_;rw[hb.out];omega,1,by omega,fun _=>aS _,c1⟩
  |true=>
   right;have e:=hb.held hh;exact⟨rfl,by show b.s=s;rw[e],hb.g,hb.out⟩
theorem Bb(h:GOk n s U d)(hh:s.halted=false):Er n 8 s d (dg n s U d):=by
 rcases po h with h1|⟨h1, -⟩
 ·exact h1
 rw[hh]at h1;cases h1
end
end Go.Ink
namespace Go.Proofs.YtakodpimdalajaaGreatDoor
open Go.RowKit Go.Ink Go.Proofs.Tryz
attribute [local irreducible] OpY bU
abbrev guF(bu bb:Nat)(L:gR)(D:rZ)(s:St)(X:hI)(Y:jV)(U:Mmu)(d:Dev):List bJ:=slD s X.Ad X.cd::slR s X.Ar X.cr::ubF bu bb L D Y U d
end Go.Proofs.YtakodpimdalajaaGreatDoor
namespace Go.Ink
open Go.RowKit
def gM(m from_:Int)(s:St):Bool:=decide (0<m)&& !s.halted&&decide (IntKind.u64.wrap (s.count - from_)<m)
def xv(n:Nat)(m:Int)(s:St)(U:Mmu)(d:Dev):St×Mmu×Dev:=pP n m s.count m.toNat (s,U,d)
theorem sP{n k:Nat}{m from_:Int}{q:St×Mmu×Dev}(h:gM m from_ q.1=false):pP n m from_ k q=q:=by
 cases k with
 |zero=>rfl
 |succ k=>
  show(bif gM m from_ q.1 then _ else q)=q;rw[h]
  rfl
theorem nH{n k:Nat}{m from_:Int}{q:St×Mmu×Dev}(h:gM m from_ q.1=true):pP n m from_ (k+1) q=pP n m from_ k (dg n q.1 q.2.1 q.2.2):=by
 show(bif gM m from_ q.1 then _ else q)=_;rw[h]
 rfl
structure GW(n:Nat)(m from_:Int)(o0 i:Nat)(q:St×Mmu×Dev):Prop where
 g:GOk n q.1 q.2.1 q.2.2
 out:q.2.2.out.length≤o0+8*i
 cnt:∃c:Nat,IntKind.u64.wrap (q.1.count - from_)=(c:Int)∧i≤c∧c≤8*i∧(c:Int)<(bif decide (0<m)then m else 0)+8
theorem Fb{n:Nat}{m from_:Int}(hm:m≤1000000){o0 i:Nat}(hi:i≤1000000){q:St×Mmu×Dev}(h:GW n m from_ o0 i q)(hc:gM m from_ q.1=true):GW n m from_ o0 (i+1) (dg n q.1 q.2.1 q.2.2)∧(i:Int)<m:=by
 obtain⟨h1,h2,c,h3,h4,h5,h6⟩:=h;simp only[gM,az,ap,Bool.not_eq_true']at hc;obtain⟨⟨hm0,hh⟩,hlt⟩:=hc;rw[aB hm0,ac]at h6;obtain⟨b1,b2,j,b3,b4,b5⟩:=Bb h1 hh;refine⟨⟨b1,by omega,c+j,?_,by omega,by omega,?_⟩,by omega⟩
 ·rw[b5];rw[aU]at h3⊢;rw[aU];omega
 rw[aB hm0,ac];omega
end Go.Ink
namespace Go.Proofs.YtakodpimdalajaaGreatDoor
open Go.RowKit Go.Ink Go.Proofs.Tryz
attribute [local irreducible] OpY bU
end Go.Proofs.YtakodpimdalajaaGreatDoor
set_option maxHeartbeats 1000000
namespace Go.Ink
open Go.RowKit
def xq(op:Int):Int:=
 bif op==2 then 5 else bif(((op==1)||(decide (32≤op)&&decide (op≤38)))||(op==66))||(op==67)then 2 else
 bif(((((decide (0≤op)&&decide (op≤8))||(decide (16≤op)&&decide (op≤25)))||(op==39))||(op==40))||(decide (48≤op)&&decide (op≤53)))||(decide (64≤op)&&decide (op≤69))then 1 else 0
theorem Fa:∀k:Fin 70,xq (k.val:Int)=cz (k.val:Int):=by decide+kernel
theorem FD(op:Int):(∃k:Fin 70,op=(k.val:Int))∨(∀k:Int,0≤k→k≤69→(op==k)=false)∧(op<0∨69<op):=by
 by_cases h:0≤op∧op≤69
 ·exact .inl ⟨⟨op.toNat,by omega⟩,by show op=((op.toNat:Nat):Int);omega⟩
 exact .inr ⟨fun k h1 h2=>by simp only[beq_eq_false_iff_ne,ne_eq];omega,by omega⟩
theorem E9(op:Int):xq op=cz op:=by
 rcases FD op with⟨k,rfl⟩|⟨e,h⟩
 ·exact Fa k
 have r:∀a b:Int,0≤a→b≤69→(decide (a≤op)&&decide (op≤b))=false:=fun a b ha hb=>by
  rw[Bool.and_eq_false_iff,aj,aj];omega
 unfold xq cz fa eh;rw[r 32 38 (by decide) (by decide),r 0 8 (by decide) (by decide),r 16 25 (by decide) (by decide),r 48 53 (by decide) (by decide),r 64 69 (by decide) (by decide)];simp[e]
end Go.Ink
namespace Go.Proofs.YtakodpimdalajaaGreatDoor
open Go.RowKit Go.Ink Go.Proofs.Tryz
attribute [local irreducible] OpY bU
theorem z8(op:Int)(w:World):Ctr prog 79 [.int .i64 op] w [] (fun v cs=>v= .int .i64 (cz op)∧cs=[]):=by
 rw[←E9];refine bL func79 rfl ntmps79 rfl (Inv.start w) ?_;refine iG ?_;refine ZW ?_ ?_<;>intro hc1
 ·refine Z_8 ?_;refine Zra ?_;refine⟨?_,rfl⟩;simp only[xq, *,ac,aa]
 refine mL ?_;refine Z_3 ?_;refine ZW ?_ ?_<;>intro hc3
 ·refine Z_8 ?_;refine Zra ?_;refine⟨?_,rfl⟩;simp only[xq, *,ac,aa]
 refine mL ?_;refine mL ?_;refine Z_3 ?_;refine ZW ?_ ?_<;>intro hc5
 ·refine Z_8 ?_;refine Zra ?_;refine⟨?_,rfl⟩;simp only[xq, *,ac,aa]
 refine Z_9 ?_;refine Zra ?_;refine⟨?_,rfl⟩;simp only[xq, *,ac,aa]
end Go.Proofs.YtakodpimdalajaaGreatDoor
namespace Go.Ink
open Go.RowKit
def encB(nn:Int)(j:Nat):Int:=IntKind.u8.wrap (nn.fdiv (2^(min (Int.toNat ((8*j:Nat):Int)) IntKind.u32.bits)))
def uY(op nn:Int)(k:Nat):List Int:=IntKind.u8.wrap op::(List.range (k - 1)).map (encB nn)
def ot(op nn:Int):List Int:=uY op nn (max 1 (cz op).toNat)
theorem wF(op nn:Int){k:Nat}(h:1≤k):(uY op nn k).length=k:=by simp[uY];omega
theorem AS(op nn:Int){k:Nat}(h:1≤k):uY op nn (k+1)=uY op nn k++[encB nn (k - 1)]:=by
 obtain⟨j,rfl⟩:∃j,k=j+1:=⟨k - 1,by omega⟩;simp[uY,List.range_succ]
theorem vk(x:Int):0≤IntKind.u8.wrap x∧IntKind.u8.wrap x≤255:=by
 have e:IntKind.u8.wrap x=x%256:=by simp[IntKind.wrap,IntKind.bits,IntKind.signed]
 rw[e];omega
theorem Gt(op nn:Int):u8s (ot op nn):=by
 intro x hx;unfold ot uY at hx;rcases aL.1 hx with rfl|hx
 ·exact vk _
 obtain⟨j, -,rfl⟩:=aY.1 hx;exact vk _
theorem wG(op nn:Int):1≤(ot op nn).length∧(ot op nn).length≤5:=by
 unfold ot;rw[wF _ _ (by omega)];have:cz op=0∨cz op=1∨cz op=2∨cz op=5:=ja op;omega
def jt(i:Int×Int):List Value:=[.int .i64 i.1,.int .u32 i.2]
theorem wi(i:Int×Int):(jt i).length=2:=rfl
def kG(l:List (Int×Int))(k:Nat):List Int:=(l.take k).flatMap fun i=>ot i.1 i.2
def iD(l:List (Int×Int)):List Int:=kG l l.length
theorem rR{l:List (Int×Int)}{k:Nat}{i:Int×Int}(h:l[k]? =some i):kG l (k+1)=kG l k++ot i.1 i.2:=by
 unfold kG;rw[List.take_add_one,h];simp
theorem mD(l:List (Int×Int)):∀k,(kG l k).length≤5*k
 |0=>by simp[kG]
 |k+1=>by
  cases h:l[k]? with
  |none=>
   unfold kG;rw[List.take_add_one,h];have:=mD l k;unfold kG at this;simp only[Option.toList_none,ay];omega
  |some i=>
   rw[rR h,ae];have:=mD l k;have:=(wG i.1 i.2).2;omega
theorem wN(l:List (Int×Int))(k:Nat):u8s (kG l k):=by
 intro x hx;unfold kG at hx;obtain⟨i, -,h⟩:=List.mem_flatMap.1 hx;exact Gt _ _ x h
end Go.Ink
namespace Go.Proofs.YtakodpimdalajaaGreatDoor
open Go.RowKit Go.Ink Go.Proofs.Tryz
attribute [local irreducible] OpY bU
theorem enc_ok(op nn:Int)(w:World):Ctr prog 36 [.agg #[.int .i64 op,.int .u32 nn]] w [] (fun v cs=>∃A c,v= .slice A (ot op nn).length c∧cs=[sl .u8 5 A (ot op nn).length c (ot op nn)]):=by
 have hz5:cz op=0∨cz op=1∨cz op=2∨cz op=5:=ja op;have HS:=z8 op;obtain⟨z,hz⟩:∃z:Nat,cz op=z:=ar (by omega);have he:ot op nn=uY op nn (max 1 z):=by unfold ot;rw[hz];rfl
 rw[he,wF _ _ (by omega)];rw[hz]at hz5 HS;refine bL func36 rfl ntmps36 rfl (Inv.start w) ?_;refine Z_2 ?_;refine ZO fun b1=>?_;refine Z_7 ?_;refine Zy (ce rfl rfl (Zv rfl) (by first|exact IntWalk.u8_in _ ⟨by omega,by omega⟩|exact rfl)) ?_;refine dJ (bZ rfl rfl Zrf Zrf rfl rfl) rfl ?_;rintro _ _ ⟨b8,rfl,rfl⟩;refine eJ ?_;refine cG (fun q:Nat×Option Addr×Nat=>[(1,.pointer (some ⟨b1,0,none⟩)),(3,.slice q.2.1 q.1 q.2.2),(4,.int .i64 (q.1:Int))]) (fun q=>[row b1 [.int .i64 op,.int .u32 nn] 24,sl .u8 5 q.2.1 q.1 q.2.2 (uY op nn q.1)]) (fun q=>1≤q.1∧q.1≤max 1 z) (fun q=>10 - q.1) ((⟨1,some ⟨b8,0,none⟩,1⟩:Nat×Option Addr×Nat)) ?_ ?_ ?_ ?_
 ·exact⟨aS _,by omega⟩
 ·exact Zwk
 ·exact Zu
 rintro⟨k,A,c⟩ ⟨hk1,hkz⟩;dsimp only at hk1 hkz⊢;refine Z_6 ?_;refine ZSe (fun w hi=>HS w) ?_;refine Z_3 ?_;refine ZW ?_ ?_<;>intro hc3
 ·simp only[ap]at hc3;refine Z_9 ?_;refine Zy (eT (Zv rfl) (Zv rfl) (show _=((k - 1:Nat):Int)from by rw[IntWalk.i64_in _ ⟨by omega,by omega⟩];omega)) ?_;refine Zy (ce rfl rfl (Zv rfl) (u64_wrap_id _ (by omega) (by omega))) ?_;refine Zy (iH (Zv rfl) (Zv rfl) (show _=((8*(k - 1):Nat):Int)from by rw[u64_wrap_id _ (by omega) (by omega)];omega)) ?_;refine Zy (jw (Zv rfl) (Zv rfl) (by omega) rfl) ?_;refine Zy (ce rfl rfl (Zv rfl) (show _=encB nn (k - 1)from rfl)) ?_;refine dJ (bZ rfl rfl Zrf Zrf rfl rfl) rfl ?_;rintro _ _ ⟨b25,rfl,rfl⟩;refine dJ (cW (e:=5) (sz:=1) (bytes:=1) rfl rfl Za rfl rfl (fun w hi=>hi.rd (show Has _ (slv 5 1 (some ⟨b25,0,none⟩) 1 1 (ints .u8 [encB nn (k - 1)]))from Zh)) cY (by simp only[maxLen];omega) (by omega)) rfl ?_;rintro _ _ ⟨A2,c2,rfl,rfl⟩;rw[cH,←AS op nn hk1];refine Z_6 ?_;refine Zy (cy Zv0 Zv0 Zl) ?_;refine Z_2 ?_;refine cq ((⟨k+1,A2,c2⟩:Nat×Option Addr×Nat)) ?_ ?_ ?_
  ·exact⟨⟨show 1≤k+1 by omega,show k+1≤max 1 z by omega⟩,show 10 - (k+1)<10 - k by omega⟩
  ·exact Zwk
  exact Zj
 simp only[aj]at hc3;obtain rfl:k=max 1 z:=(by omega);refine gQ ?_;refine Zrb ([slv _ _ _ _ _ _]) ?_;exact⟨A,c,rfl,rfl⟩
theorem m5(A:Option Addr)(c:Nat)(l:List (Int×Int))(hl:l.length≤1000)(w:World)(h:RdV w 2 A l.length c (l.flatMap jt)):Ctr prog 9 [.slice A l.length c] w [] (fun v cs=>∃A' c',v= .slice A' (iD l).length c'∧cs=[sl .u8 5 A' (iD l).length c' (iD l)]):=by
 refine bL func9 rfl ntmps9 rfl (Inv.start w) ?_;refine jT ?_;refine dC 5 1 ?_;refine Z_4 ?_;refine cG (fun q:Nat×Option Addr×Nat=>[(0,.slice A l.length c),(3,.slice q.2.1 (kG l q.1).length q.2.2),(4,.int .i64 (q.1:Int))]) (fun q=>[sl .u8 5 q.2.1 (kG l q.1).length q.2.2 (kG l q.1)]) (fun q=>q.1≤l.length) (fun q=>l.length - q.1) ((⟨0,none,0⟩:Nat×Option Addr×Nat)) ?_ ?_ ?_ ?_
 ·exact ax _
 ·exact Zwk
 ·exact Zu
 rintro⟨k,A1,c1⟩ hk;dsimp only at hk⊢;have hcl:=mD l k;refine Z_9 ?_;refine ZW ?_ ?_<;>intro hc3
 ·simp only[ap]at hc3;have hkl:k<l.length:=(by omega);obtain⟨ad,rfl⟩:=h.some_ (by omega);have hla:l[k]? =some (l[k]'hkl):=ao hkl;obtain⟨⟨op,nn⟩,ha⟩:=Zgn (l[k]'hkl);rw[ha]at hla;have hel:=wG op nn;refine Z_8 ?_;refine Zy (dx (j:=k) rfl Zrf (Zv rfl) (Zv rfl) (fun _=>by omega) (fun _=>by omega)) ?_;refine dX (cB (vs:=[.int .i64 op,.int .u32 nn]) Zrf Zrf Zv0) (fV h (fun j v hj=>fP wi (i:=j) hla hj)) rfl ?_;refine ZS (fun w hi=>enc_ok op nn w) ?_;rintro _ _ ⟨_,⟨A2,c2,rfl,rfl⟩,rfl⟩;refine dJ (cW (e:=5) (sz:=1) (bytes:=1) rfl rfl Za rfl rfl (fun w hi=>hi.rd (show Has _ (sl .u8 5 A2 (ot op nn).length c2 (ot op nn))from Zh)) cY (by simp only[maxLen];omega) (by omega)) rfl ?_;rintro _ _ ⟨A3,c3,rfl,rfl⟩;rw[cH,←ae,←rR hla];refine Z_6 ?_;refine Zy (cy Zv0 Zv0 Zl) ?_;refine Z_2 ?_;refine cq ((⟨k+1,A3,c3⟩:Nat×Option Addr×Nat)) ?_ ?_ ?_
  ·exact⟨show k+1≤l.length by omega,show l.length - (k+1)<l.length - k by omega⟩
  ·exact Zwk
  exact Zj
 simp only[aj]at hc3;obtain rfl:k=l.length:=(by omega);refine gQ ?_;refine Zrb ([slv _ _ _ _ _ _]) ?_;exact⟨A1,c1,rfl,rfl⟩
end Go.Proofs.YtakodpimdalajaaGreatDoor
namespace Go.Ink
open Go.RowKit
structure GLoc where
 bw:Nat
 bu:Nat
 bb:Nat
 L:gR
 D:rZ
 bg:Nat
 K:RMLoc
 bx:Nat
 by_:Nat
 bd:Nat
theorem new_wf:St.new.wf:=⟨u0,u0,u0,u0,u0,u0,u0,⟨bE _,show(0:Int)≤18446744073709551615 by decide⟩,fun x hx=>(by cases hx),fun x hx=>by cases hx⟩
theorem od{n:Nat}{l k:List Int}(hl:l.length≤n*64)(hb:u8s l)(hk:k.length≤1024)(hkb:u8s k):GOk n St.new ⟨Mem.init n l,dM⟩ (Dev.init k):=
 ⟨new_wf,rfl,⟨Jd hl hb,sJ⟩,Dev.Jd hk hkb,⟨bE _,show(0:Int)≤255 by decide⟩⟩
end Go.Ink
namespace Go.Proofs.YtakodpimdalajaaGreatDoor
open Go.RowKit Go.Ink Go.Proofs.Tryz
attribute [local irreducible] OpY bU
theorem xJ(A:Option Addr)(c n:Nat)(l:List Int)(hn:n≤64)(hl:l.length≤n*64)(w:World)(h:Rd w .u8 A l.length c l):
  Ctr prog 87 [.int .i64 n,.slice A l.length c] w [] (fun v cs=>∃K,v= .pointer (some ⟨K.bm,0,none⟩)∧cs=un K n (jh n l) (List.replicate n false)):=by
 refine bL func87 rfl ntmps87 rfl (Inv.start w) ?_;refine Z_8 ?_;refine ZS (fun w hi=>Aa n hn w) ?_;rintro _ _ ⟨_,⟨K,rfl,rfl⟩,rfl⟩;refine eJ ?_;refine dJ (ly rfl rfl Za rfl rfl (fun w hi=>h.Iy hi) cY (by omega)) rfl ?_;rintro _ _ ⟨rfl,rfl⟩;have hd2:(ints .u8 (List.replicate (n*64) 0)).take 0++(ints .u8 l).take (min l.length (n*64))++(ints .u8 (List.replicate (n*64) 0)).drop (0+min l.length (n*64))=ints .u8 (jh n l):=(by rw[Nat.min_eq_left hl];simp[ints,jh,List.take_of_length_le]);rw[hd2];refine Z_9 ?_;refine Zrb ((un K n (jh n l) (List.replicate n false))) ?_;exact⟨K,rfl,rfl⟩
abbrev imgV(A:Option Addr)(c:Nat)(l:List Int)(B:Option Addr)(e:Nat)(k:List Int)(n:Nat):Value:= .agg #[.slice A l.length c,.slice B k.length e,.int .i64 (n:Int)]
abbrev DB(F:GLoc)(s:St):bJ:=row F.bg (s.cells (.slice none 0 0) (.slice none 0 0)++[.pointer (some ⟨F.bx,0,none⟩),.pointer (some ⟨F.by_,0,none⟩)]) 144
abbrev ls(F:GLoc)(s:St):bJ:=row F.bw ([.pointer (some ⟨F.bu,0,none⟩),.pointer (some ⟨F.D.bs,0,none⟩),.pointer (some ⟨F.L.bm,0,none⟩)]++(s.cells (.slice none 0 0) (.slice none 0 0)++[.pointer (some ⟨F.bg,0,none⟩)])) 47
abbrev r18F(F:GLoc)(n:Nat)(Z:jV)(data:List Int)(tu:List Bool)(T:List TE)(d:Dev):List bJ:=un F.K n data tu++[qP F.bx F.K.bm T]++z9 F.by_ F.K.bm F.bd Z d
theorem xy(A B:Option Addr)(c e n:Nat)(l k:List Int)(hn:n≤64)(hl:l.length≤n*64)(hk:k.length≤1024)(w:World)(h:Rd w .u8 A l.length c l)(hB:Rd w .u8 B k.length e k):
  Ctr prog 41 [imgV A c l B e k n] w [] (fun v cs=>∃bg K bx by_ bd,v= .pointer (some ⟨bg,0,none⟩)∧cs=row bg (St.new.cells (.slice none 0 0) (.slice none 0 0)++[.pointer (some ⟨bx,0,none⟩),.pointer (some ⟨by_,0,none⟩)]) 144::(un K n (jh n l) (List.replicate n false)++[qP bx K.bm dM]++z9 by_ K.bm bd ⟨none,0,none,0⟩ (Dev.init k))):=by
 have H1:=xJ A c n l hn hl;have H3:=fun bm w h=>xz bm B e k hk w h
 obtain⟨d,hd⟩:=Zgn (Dev.init k);obtain⟨data,hda⟩:=Zgn (jh n l);obtain⟨tu,htu⟩:=Zgn (List.replicate n false);rw[hd]at H3⊢;rw[hda,htu]at H1⊢;refine bL func41 rfl ntmps41 rfl (Inv.start w) ?_;refine Z_2 ?_;refine ZO fun b1=>?_;refine Z_9 ?_;refine ZS (fun w hi=>H1 w (h.Iy hi)) ?_;rintro _ _ ⟨_,⟨K,rfl,rfl⟩,rfl⟩;refine ZS (fun w hi=>xA K.bm w) ?_;rintro _ _ ⟨_,⟨bx,rfl,rfl⟩,rfl⟩;refine Z_4 ?_;refine bX ⟨fun j=>List.elem j [],[]⟩ Zk ?_;refine ZE 0 ?_;refine ZE 1 ?_;refine ZE 2 ?_;refine ZE 3 ?_;refine ZFe 4 0 ?_;refine ZG 5 ?_;refine ZFe 6 1 ?_;refine ZG 7 ?_;refine cw 8 Zk ?_;refine ZT (fun w hi=>H3 K.bm w (hB.Iy hi)) ?_;rintro _ _ ⟨_,⟨by_,bd,rfl,rfl⟩,rfl⟩;refine ZE 9 ?_;refine cw 10 Zk ?_;refine gn rfl rfl (qD rfl rfl) ZJ rfl ?_;rintro _ _ ⟨b20,rfl,rfl⟩;refine ZE 11 ?_;refine bN Zk ?_;refine Z_2 ?_;refine bP (row b20 (St.new.cells (.slice none 0 0) (.slice none 0 0)++[.pointer (some ⟨bx,0,none⟩),.pointer (some ⟨by_,0,none⟩)]) 144::(un K n data tu++[qP bx K.bm dM]++z9 by_ K.bm bd ⟨none,0,none,0⟩ d)) Zj ?_;refine Zrb ((row b20 (St.new.cells (.slice none 0 0) (.slice none 0 0)++[.pointer (some ⟨bx,0,none⟩),.pointer (some ⟨by_,0,none⟩)]) 144::(un K n data tu++[qP bx K.bm dM]++z9 by_ K.bm bd ⟨none,0,none,0⟩ d))) ?_;exact⟨b20,K,bx,by_,bd,rfl,rfl⟩
abbrev fr18(F:GLoc)(n:Nat)(l k:List Int):List bJ:=ls F St.new::DB F St.new::(ubF F.bu F.bb F.L F.D ⟨none,0,none,0⟩ ⟨Mem.init n l,dM⟩ (Dev.init k)++r18F F n ⟨none,0,none,0⟩ (jh n l) (List.replicate n false) dM (Dev.init k))
theorem mA(A B:Option Addr)(c e n:Nat)(l k:List Int)(hn0:1≤n)(hn:n≤64)(hl:l.length≤n*64)(hb:u8s l)(hk:k.length≤1024)(w:World)(h:Rd w .u8 A l.length c l)(hB:Rd w .u8 B k.length e k):
  Ctr prog 10 [imgV A c l B e k n] w [] (fun v cs=>∃F,F.L.n=n∧v= .pointer (some ⟨F.bw,0,none⟩)∧cs=fr18 F n l k):=by
 have H1:=CF A c n l hn0 hn hl hb;have H2:=fun bm w h=>Ee bm B e k hk w h
 have H3:=xy A B c e n l k hn hl hk;unfold fr18;obtain⟨M,hM⟩:=Zgn (Mem.init n l);obtain⟨d,hd⟩:=Zgn (Dev.init k);obtain⟨data,hda⟩:=Zgn (jh n l);obtain⟨tu,htu⟩:=Zgn (List.replicate n false);rw[hM]at H1⊢;rw[hd]at H2 H3⊢;rw[hda,htu]at H3⊢;refine bL func10 rfl ntmps10 rfl (Inv.start w) ?_;refine Z_2 ?_;refine ZO fun b1=>?_;refine Z_9 ?_;refine ZS (fun w hi=>H1 w (h.Iy hi)) ?_;rintro _ _ ⟨_,⟨L,hL,rfl,rfl⟩,rfl⟩;refine eJ ?_;refine bV rfl (rfl) ?_;refine Z_5 ?_;refine ZS (fun w hi=>CC L.bm w) ?_;rintro _ _ ⟨_,⟨bu,bb,rfl,rfl⟩,rfl⟩;refine gQ ?_;refine ZS (fun w hi=>H2 L.bm w (hB.Iy hi)) ?_;rintro _ _ ⟨_,⟨D,rfl,rfl⟩,rfl⟩;refine mL ?_;refine Z_6 ?_;refine bV rfl (rfl) ?_;refine Z_3 ?_;refine bX ⟨fun j=>List.elem j [],[]⟩ Zk ?_;refine ZE 0 ?_;refine ZE 1 ?_;refine ZE 2 ?_;refine ZI 4 ?_;refine cw 3 Zk ?_;refine ZT (fun w hi=>new_ok w) ?_;rintro _ _ ⟨_,⟨rfl,rfl⟩,rfl⟩;refine cw 5 Zk ?_;refine ZT (fun w hi=>H3 w (h.Iy hi) (hB.Iy hi)) ?_;rintro _ _ ⟨_,⟨bg,K,bx,by_,bd,rfl,rfl⟩,rfl⟩;refine ZE 6 ?_;refine cw 7 Zk ?_;refine gn rfl rfl (qD rfl rfl) ZJ rfl ?_;rintro _ _ ⟨b48,rfl,rfl⟩;refine ZE 8 ?_;refine bN Zk ?_;refine Z_2 ?_;refine bP (ls ⟨b48,bu,bb,L,D,bg,K,bx,by_,bd⟩ St.new::DB ⟨b48,bu,bb,L,D,bg,K,bx,by_,bd⟩ St.new::(ubF bu bb L D ⟨none,0,none,0⟩ ⟨M,dM⟩ d++r18F ⟨b48,bu,bb,L,D,bg,K,bx,by_,bd⟩ n ⟨none,0,none,0⟩ data tu dM d)) Zj ?_;refine Zrb ((ls ⟨b48,bu,bb,L,D,bg,K,bx,by_,bd⟩ St.new::DB ⟨b48,bu,bb,L,D,bg,K,bx,by_,bd⟩ St.new::(ubF bu bb L D ⟨none,0,none,0⟩ ⟨M,dM⟩ d++r18F ⟨b48,bu,bb,L,D,bg,K,bx,by_,bd⟩ n ⟨none,0,none,0⟩ data tu dM d))) ?_;exact⟨⟨b48,bu,bb,L,D,bg,K,bx,by_,bd⟩,hL,rfl,rfl⟩
end Go.Proofs.YtakodpimdalajaaGreatDoor
