/- Lemmas. -/
import Derived.Test.YtomjgmbccamgiaaGreatDoorQaa
import Derived.Test.YtomjgmbccamgiaaGreatDoorQab
import Derived.Test.YtomjgmbccamgiaaGreatDoorQah
set_option linter.unusedSimpArgs false
set_option linter.unusedVariables false
set_option maxRecDepth 100000
set_option maxHeartbeats 4000000
namespace Go.Ink
open Go.RowKit
theorem w8(k:IntKind)(x y:Int):bits .or k x y=bits .or k y x:=by
 unfold bits;simp only[BitVec.or_comm]
theorem uV:∀{l:List Int},u8s l→0≤xi l∧xi l<((256^l.length:Nat):Int)
 |[],_=>by simp[xi]
 |b::l,h=>by
  obtain⟨h1,h2⟩:=uV (l:=l) (fun x hx=>h x (bC _ hx));have hb:=h b (by simp);have e:((256^(b::l).length:Nat):Int)=256*((256^l.length:Nat):Int):=by
   rw[ai,Nat.pow_succ,Nat.mul_comm];exact Int.natCast_mul 256 _
  rw[e];unfold xi;omega
def SzIn(x:Int):Prop:=x=0∨x=1∨x=2∨x=5
theorem jf(op:Int):SzIn (cG op):=by
 unfold cG
 repeat (refine bN SzIn (Or.inr (Or.inr (Or.inl rfl))) ?_)
 refine bN SzIn (Or.inr (Or.inr (Or.inr rfl))) ?_;exact bN SzIn (Or.inl rfl) (Or.inr (Or.inl rfl))
theorem shl8_or{N b:Int}(h0:0≤N)(h1:N<16777216)(hb:0≤b∧b≤255):bits .or .u32 (IntKind.u32.wrap (N*2^(min (Int.toNat 8) IntKind.u32.bits))) b=b+256*N:=by
 have e:(N*2^(min (Int.toNat 8) IntKind.u32.bits):Int)=N*256:=rfl;rw[e,u32_wrap_id _ (by omega) (by omega),w8,show bits .or .u32 b (N*256)=b+N*256 from by apply u32_or8<;>omega];omega
end Go.Ink
namespace Go.Proofs.YtomjgmbccamgiaaGreatDoor
open Go.RowKit Go.Ink Go.Proofs.Tryz
attribute [local irreducible] OpY bW
def lv(w:World):Prop:=RdV w 1 (some ⟨0,0,none⟩) 32 32 (ints .u8 xv)
theorem lv.old{w0 w:World}{cs:List bJ}(h:lv w0)(hi:Inv w0 [] cs w):lv w:=RdV.IB h hi
theorem Fu{w0:World}{cs:List bJ}{j:Nat}{a:Int}(ht:lv w0)(h:xv[j]? =some a):∀w,Inv w0 [] cs w→cells [(⟨0,0+j*1,none⟩,.int .u8 a)] w:=by
 have h5:=fe (w0:=w0) (cs:=cs) ht (df h);rw[Addr.add_lit]at h5;exact h5
theorem tz_ok(x k:Nat)(h0:0<x)(h:x<256)(hk:nY x=some k)(w:World)(ht:lv w):Ctr prog 111 [.int .u32 (x:Int)] w [] (fun v cs=>v= .int .i64 (k:Int)∧cs=[]):=by
 obtain⟨k',j,e1,e5,e2,e3,e4⟩:=B4 h0 h;obtain rfl:k'=k:=aJ (e1.symm.trans hk);refine bL func111 rfl ntmps111 rfl (Inv.start w) ?_;refine gK ?_;refine bY rfl ((beq_eq_false_iff_ne.2 (by omega))) ?_;refine Z_6 ?_;refine Zy (y_neg Zv0 rfl) ?_;refine ZA ?_;refine Zy (i3 Zv0 Zv0 rfl) ?_;refine Zy (jY (Zv rfl) (Zv rfl) (by omega) (show _=(j:Int)from e2)) ?_;refine Zy (dy (j:=j) (sz:=1) (r:=0+j*1) rfl Zrf (Zv rfl) (Zv rfl) (fun _=>by omega) (fun _=>by omega) (by omega)) ?_;refine dU (bM Zrf Zv0) (Fu ht e4) rfl ?_;refine Zy (cu rfl rfl Zv0 Zl) ?_;refine Z_4 ?_;refine Zra ?_;exact⟨rfl,rfl⟩
theorem Ba(b x:Nat)(p m:Int)(hx:bits .and .u32 p m=(x:Int))(h256:x<256)(w:World)(h:(pU b p m).ok w)(ht:lv w):
  Ctr prog 86 [.pointer (some ⟨b,0,none⟩)] w [] (fun v cs=>v= .tuple #[.int .i64 (((nY x).getD 0:Nat):Int),.bool (nY x).isSome]∧cs=[]):=by
 refine bL func86 rfl ntmps86 rfl (Inv.start w) ?_;refine Z_7 ?_;refine cj ⟨fun j=>List.elem j [],[]⟩ Zk ?_;refine ZE 0 ?_;refine ZE 1 ?_;refine ZFe 2 0 ?_;refine eQ 3 rfl Zk Zk Zk Zk (bM Zrf (Zv rfl)) (dL (by assumption) rfl) rfl ?_;refine ZE 4 ?_;refine ZE 5 ?_;refine ZFe 6 1 ?_;refine eQ 7 rfl Zk Zk Zk Zk (bM Zrf (Zv rfl)) (dL (by assumption) rfl) rfl ?_;refine cR 8 rfl Zk Zk Zk (nw Zv0 Zv0 hx) rfl ?_;refine ZE 9 ?_;refine bO Zk ?_;refine Z_8 ?_;refine ZW ?_ ?_<;>intro hc2
 ·obtain rfl:x=0:=(by have:=jV hc2;omega);rw[Gi];refine Z_8 ?_;refine fw (cs':=[]) (.inl rfl) Zu rfl rfl rfl ?_;exact⟨rfl,rfl⟩
 have hx0:0<x:=(by have:=ne_of_beq_false hc2;omega);obtain⟨k,j,e1, -⟩:=B4 hx0 h256;have HT:=tz_ok x k hx0 h256 e1;rw[e1];refine Z_5 ?_;refine ZSe (fun w hi=>HT w (ht.old hi)) ?_;refine Z_5 ?_;refine fw (cs':=[]) (.inl rfl) Zu rfl rfl rfl ?_;exact⟨rfl,rfl⟩
theorem due_ok(b:Nat)(t count:Int)(w:World)(hi:Inv w (bK [Aw b t]) [Aw b t] w):
  Ctr prog 109 [.pointer (some ⟨b,0,none⟩),.int .u64 count] w [Aw b t] (fun v cs=>v= .bool (!((t==0)||decide (IntKind.u32.wrap count<t)))∧cs=[Aw b (bif(t==0)||decide (IntKind.u32.wrap count<t)then t else 0)]):=by
 refine bL func109 rfl ntmps109 rfl hi ?_;refine qp ?_;refine Zyn rfl rfl (cu rfl rfl (dc rfl) rfl) ?_;refine Z_8 ?_;refine ZW ?_ ?_<;>intro hc1
 ·rw[hc1];refine Z_7 ?_;refine Zrb ([row _ _ _]) ?_;exact⟨rfl,rfl⟩
 rw[hc1];refine Z_7 ?_;refine ZL ?_;refine Z_8 ?_;refine Zrb ([row _ _ _]) ?_;exact⟨rfl,rfl⟩
theorem lines0:pf [0]=1:=by decide
theorem tick_ok(D:p6)(bm:Nat)(X:j0)(d:Dev)(count:Int)(w:World)(hi:Inv w (bK (mO D bm X d)) (mO D bm X d) w):
  Ctr prog 85 [.pointer (some ⟨D.bs,0,none⟩),.int .u64 count] w (mO D bm X d) (fun v cs=>v= .tuple #[]∧cs=mO D bm X (d.tick count)):=by
 obtain⟨c,hc⟩:=Zgn (((d.timer==0)||decide (IntKind.u32.wrap count<d.timer)));have HD:=due_ok D.bti d.timer count;have HR:=fun A c w hi h=>rP D.bi d.IH d.mask A c [0] (fun x hx=>by simp at hx;omega) w hi h
 rw[hc]at HD;rw[lines0]at HR;refine bL func85 rfl ntmps85 rfl hi ?_;refine Z_7 ?_;refine ZcM ([Aw D.bti d.timer]) (fun w hi hin=>HD w hin) ?_;refine Z_2 ?_;refine ZW ?_ ?_<;>intro hc0
 ·obtain rfl:c=false:=(by cases c with|false=>rfl|true=>cases hc0);have ht:d.tick count={d with timer:=0,IH:=bits .or .u32 d.IH 1}:=(by unfold Dev.tick;rw[hc];rfl);rw[ht];refine Z_5 ?_;refine dM (cm rfl rfl Zrf Zrf rfl rfl) rfl ?_;rintro _ _ ⟨b14,rfl,rfl⟩;refine ZcM ([pU D.bi d.IH d.mask]) (fun w hi hin=>HR (some ⟨b14,0,none⟩) 1 w hin (fun w' hk=>hi.Jb Zi (show Has _ (slv 3 1 (some ⟨b14,0,none⟩) 1 1 (ints .i64 [0]))from Zh) hk)) ?_;refine Zn (bQ (mO D bm X {d with timer:=0,IH:=bits .or .u32 d.IH 1}) Zj ?_);refine fL (cs':=[row _ _ _,row _ _ _,row _ _ _,row _ _ _,slv _ _ _ _ _ _,slv _ _ _ _ _ _,row _ _ _,slv _ _ _ _ _ _]) (.inr rfl) Zu rfl ?_;exact⟨rfl,rfl⟩
 obtain rfl:c=true:=(by cases c with|true=>rfl|false=>cases hc0);have ht:d.tick count=d:=(by unfold Dev.tick;rw[hc];rfl);rw[ht];refine Zc (bQ (mO D bm X d) Zj ?_);refine fL (cs':=[row _ _ _,row _ _ _,row _ _ _,row _ _ _,slv _ _ _ _ _ _,slv _ _ _ _ _ _,row _ _ _,slv _ _ _ _ _ _]) (.inr rfl) Zu rfl ?_;exact⟨rfl,rfl⟩
theorem u6(op:Int)(w:World):Ctr prog 133 [.int .i64 op] w [] (fun v cs=>v= .bool (gq op)∧cs=[]):=by
 refine bL func133 rfl ntmps133 rfl (Inv.start w) ?_;refine ln ?_;refine Z_5 ?_;refine Zra ?_;exact⟨rfl,rfl⟩
theorem Gz(A:Option Addr)(c:Nat)(l:List Int)(x:Int)(w:World)(h:Rd w .i64 A l.length c l):Ctr prog 105 [.slice A l.length c,.int .i64 x] w [] (fun v cs=>(∃z,v= .int .i64 z∧decide (0≤z)=l.contains x)∧cs=[]):=by
 have hlm:l.length≤maxLen:=aY h.cap h.max;simp only[maxLen]at hlm;refine bL func105 rfl ntmps105 rfl (Inv.start w) ?_;refine ic ?_;refine cJ (fun k:Nat=>[(0,.slice A l.length c),(1,.int .i64 x),(7,.int .i64 (l.length:Int)),(8,.int .i64 (k:Int))]) (fun _=>[]) (fun k=>k≤l.length∧∀j,j<k→l[j]? ≠some x) (fun k=>l.length - k) (0) ?_ ?_ ?_ ?_
 ·exact⟨aw _,fun j hj=>by omega⟩
 ·exact Zwk
 ·exact Zu
 rintro k ⟨hk,hno⟩;refine Z_6 ?_;refine ZW ?_ ?_<;>intro hc2
 ·simp only[ap]at hc2;have hkl:k<l.length:=(by omega);obtain⟨ad,rfl⟩:=h.some_ (by omega);have hy:l[k]? =some (l[k]'hkl):=ak hkl;obtain⟨y,hyy⟩:=Zgn (l[k]'hkl);rw[hyy]at hy;refine qp ?_;refine Zy (dk (j:=k) rfl Zrf (Zv rfl) (Zv rfl) (fun _=>by omega) (fun _=>by omega)) ?_;refine dU (bM Zrf Zv0) (fe h (df hy)) rfl ?_;refine Z_3 ?_;refine ZW ?_ ?_<;>intro hc4
  ·have e:=jV hc4;refine gK ?_;refine Zra ?_;exact⟨⟨_,rfl,by rw[aG (show(0:Int)≤(k:Int) by omega),List.contains_eq_mem,aG (e▸aK hy)]⟩,rfl⟩
  refine Z_4 ?_;refine Zy (cF Zv0 Zv0 Zl) ?_;refine Z_2 ?_;refine eh (k+1) ?_ ?_ ?_
  ·exact⟨⟨by omega,fun j hj=>by rcases Nat.lt_or_ge j k with h1|h1;exact hno j h1;obtain rfl:j=k:=(by omega);rw[hy];intro e;exact ne_of_beq_false hc4 (aJ e).symm⟩,by omega⟩
  ·exact Zwk
  exact Zu
 simp only[aj]at hc2;have hnm:l.contains x=false:=(by rw[List.contains_eq_mem,aj];intro hm;obtain⟨j,hj,e⟩:=List.getElem_of_mem hm;exact hno j (by omega) (by rw[ak hj,e]));refine eo ?_;refine Zra ?_;exact⟨⟨_,rfl,by rw[hnm];rfl⟩,rfl⟩
theorem sj(A:Option Addr)(c:Nat)(l:List Int)(x:Int)(w:World)(h:Rd w .i64 A l.length c l):Ctr prog 80 [.slice A l.length c,.int .i64 x] w [] (fun v cs=>v= .bool (l.contains x)∧cs=[]):=by
 refine bL func80 rfl ntmps80 rfl (Inv.start w) ?_;refine Z_9 ?_;refine ZS (fun w hi=>Gz A c l x w (RdV.IB h hi)) ?_;rintro _ _ ⟨_,⟨⟨z,rfl,hz⟩,rfl⟩,rfl⟩;refine Z_5 ?_;refine Zra ?_;exact⟨by rw[←hz],rfl⟩
end Go.Proofs.YtomjgmbccamgiaaGreatDoor
namespace Go.Ink
open Go.RowKit
abbrev insV(o:Option ((Int×Int)×Nat)):List Value:=[.int .i64 ((o.map (·.1.1)).getD 0),.int .u32 ((o.map (·.1.2)).getD 0)]
abbrev insN(o:Option ((Int×Int)×Nat)):Nat:=(o.map (·.2)).getD 0
theorem vg{op:Int}(l:List Int)(h:cG op=0):dY (op::l)=none:=by
 have e:(cG op==0)=true:=by rw[h];rfl
 show(bif cG op==0 then none else _)=none;rw[e]
 rfl
theorem sR{op:Int}{l:List Int}(h:(l.length:Int)+1<cG op):dY (op::l)=none:=by
 unfold dY;simp only[aG h,ac,Bool.cond_self]
theorem oI{op:Int}{l:List Int}{z:Nat}(h0:cG op=((z+1:Nat):Int))(h:z≤l.length):dY (op::l)=some ((op,xi (l.take z)),z+1):=by
 have e1:(cG op==0)=false:=by rw[h0,beq_eq_false_iff_ne];omega
 have e2:decide ((l.length:Int)+1<cG op)=false:=aF (by rw[h0];omega)
 show(bif cG op==0 then none else bif decide ((l.length:Int)+1<cG op)then none else some ((op,xi (l.take ((cG op).toNat - 1))),(cG op).toNat))=_;rw[e1,aa,e2,aa,h0]
 rfl
theorem Dp{l:List Int}{z k:Nat}{x:Int}(hk:k<z)(hx:l[k]? =some x):xi ((l.take z).drop k)=x+256*xi ((l.take z).drop (k+1)):=by
 have hx':(l.take z)[k]? =some x:=by rw[List.getElem?_take,if_pos hk];exact hx
 obtain⟨hlt,he⟩:=au.1 hx';rw[List.drop_eq_getElem_cons hlt,he]
 rfl
end Go.Ink
namespace Go.Proofs.YtomjgmbccamgiaaGreatDoor
open Go.RowKit Go.Ink Go.Proofs.Tryz
attribute [local irreducible] OpY bW
theorem wV(A:Option Addr)(c:Nat)(b:List Int)(hb:u8s b)(w:World)(h:Rd w .u8 A b.length c b):
  Ctr prog 126 [.slice A b.length c] w [] (fun v cs=>(∃y,v= .tuple #[.agg (insV (dY b)).toArray,.int .i64 (insN (dY b):Int),.int .i64 y]∧(y==0)=(dY b).isSome)∧cs=[]):=by
 have hlm:b.length≤maxLen:=aY h.cap h.max;simp only[maxLen]at hlm;cases b with
 |nil=>
  refine bL func126 rfl ntmps126 rfl (Inv.start w) ?_;refine Z_2 ?_;refine ZN fun b2=>?_;refine gK ?_;refine cB rfl (rfl) ?_;refine Z_3 ?_;refine ZM ?_;refine Z_6 ?_;refine AF (cs':=[]) (.inl rfl) Zu rfl rfl rfl rfl Zh Zrf Zrf ?_;exact⟨⟨10,rfl,rfl⟩,rfl⟩
 |cons op l=>
  have hop:=hb op (by simp);have hl:u8s l:=fun x hx=>hb x (bC _ hx)
  have hlen:(op::l).length=l.length+1:=rfl;obtain⟨ad,rfl⟩:=h.some_ (by rw[hlen];omega);have hz5:cG op=0∨cG op=1∨cG op=2∨cG op=5:=jf op;have HS:=uo op;have hn0:0≤cG op:=by omega
  obtain⟨z0,hz0⟩:∃z:Nat,cG op=z:=ar hn0;have E0:=vg (op:=op) l;have E1:=sR (op:=op) (l:=l);have E2:=fun z h1 h2=>oI (op:=op) (l:=l) (z:=z) h1 h2
  rw[hz0]at hz5 HS E0 E1 E2;have hz6:z0≤5:=by omega
  refine bL func126 rfl ntmps126 rfl (Inv.start w) ?_;refine Z_2 ?_;refine ZN fun b2=>?_;refine gK ?_;refine bY rfl ((beq_eq_false_iff_ne.2 (by rw[hlen];omega))) ?_;refine Z_5 ?_;refine Zy (dk (j:=0) rfl Zrf (Zv rfl) (Zv rfl) (fun _=>by omega) (fun _=>by omega)) ?_;refine dU (bM Zrf Zv0) (fe h (df (l:=op::l) (j:=0) rfl)) rfl ?_;refine Zy (cu rfl rfl Zv0 Zl) ?_;refine ZA ?_;refine ZN fun b5=>?_
  refine ZM ?_;refine Z_6 ?_;refine ZSe (fun w hi=>HS w) ?_;refine gK ?_;refine ZW ?_ ?_<;>intro hc5
  ·rw[E0 (jV hc5)];refine Z_3 ?_;refine ZM ?_;refine Z_7 ?_;refine AF (cs':=[]) (.inl rfl) Zu rfl rfl rfl rfl Zh Zrf Zrf ?_;exact⟨⟨12,rfl,rfl⟩,rfl⟩
  have hz1:1≤z0:=(by have:=ne_of_beq_false hc5;omega);refine Z_9 ?_;refine ZW ?_ ?_<;>intro hc7
  ·simp only[ap]at hc7;rw[E1 (by rw[hlen]at hc7;omega)];refine Z_3 ?_;refine ZM ?_;refine Z_7 ?_;refine AF (cs':=[]) (.inl rfl) Zu rfl rfl rfl rfl Zh Zrf Zrf ?_;exact⟨⟨10,rfl,rfl⟩,rfl⟩
  simp only[aj]at hc7;obtain⟨z,rfl⟩:∃z,z0=z+1:=⟨z0 - 1,by omega⟩;have hzl:z≤l.length:=(by rw[hlen]at hc7;omega);rw[E2 z rfl hzl];have htl:(l.take z).length=z:=(by rw[az];omega);have hrng:∀k,0≤xi ((l.take z).drop k)∧xi ((l.take z).drop k)<((256^(z - k):Nat):Int):=fun k=>(by have h1:=uV (l:=(l.take z).drop k) (fun x hx=>hl x (List.mem_of_mem_take (List.mem_of_mem_drop hx)));rwa[bz,htl]at h1)
  obtain⟨N,hN⟩:∃N:Nat→Int,(fun k=>xi ((l.take z).drop k))=N:=⟨_,rfl⟩;have hN0:N 0=xi (l.take z):=(by rw[←hN];rfl);have hNz:N z=0:=(by rw[←hN];show xi ((l.take z).drop z)=0;rw[List.drop_of_length_le (by omega)];rfl);have hNs:∀k x,k<z→l[k]? =some x→N k=x+256*N (k+1):=(fun k x h1 h2=>by rw[←hN];exact Dp h1 h2);have hNr:∀k,0≤N k∧N k<((256^(z - k):Nat):Int):=(fun k=>by rw[←hN];exact hrng k);rw[←hN0];refine Z_6 ?_;refine kQ ([row b2 [.int .i64 0,.int .u32 0] 94,row b5 [.int .i64 op,.int .u32 0] 94]) Zj ?_;rw[show row b5 [Value.int .i64 op,Value.int .u32 0] 94=row b5 [Value.int .i64 op,Value.int .u32 (N z)] 94 from by rw[hNz]];refine ZA ?_;refine Zy (eP (Zv rfl) (Zv rfl) (show _=(z:Int)from by rw[IntWalk.i64_in _ ⟨by omega,by omega⟩];omega)) ?_;refine Z_4 ?_;refine cJ (fun k:Nat=>[(0,.slice (some ad) (op::l).length c),(2,.pointer (some ⟨b2,0,none⟩)),(5,.pointer (some ⟨b5,0,none⟩)),(6,.int .i64 ((z+1:Nat):Int)),(7,.int .i64 (k:Int))]) (fun k=>[row b2 [.int .i64 0,.int .u32 0] 94,row b5 [.int .i64 op,.int .u32 (N k)] 94]) (fun k=>k≤z) (fun k=>k) (z) ?_ ?_ ?_ ?_
  ·exact aQ _
  ·exact Zwk
  ·exact Zu
  rintro k hk;refine Z_7 ?_;refine ZW ?_ ?_<;>intro hc10
  ·simp only[ap]at hc10;obtain⟨k,rfl⟩:∃m,k=m+1:=⟨k - 1,by omega⟩;have hx:l[k]? =some (l[k]'(by omega)):=ak (by omega);have hxb:=hl _ (List.getElem_mem (show k<l.length by omega));obtain⟨x,hxx⟩:=Zgn (l[k]'(by omega));rw[hxx]at hx hxb;have hst:=hNs k x (by omega) hx;have hr:=hNr (k+1);have hp:(256^(z - (k+1)):Nat)≤256^3:=Nat.pow_le_pow_right (by decide) (by omega);have hp2:((256^(z - (k+1)):Nat):Int)≤16777216:=(by have e:(256^3:Nat)=16777216:=(by decide);omega);have hor:=shl8_or hr.1 (by omega) hxb;refine Z_4 ?_;refine cj ⟨fun j=>List.elem j [10],[]⟩ Zk ?_;refine ZFe 0 1 ?_;refine ZG 1 ?_;refine cR 2 rfl Zk Zk Zk (ug (Zv rfl) (Zv rfl) (by omega) rfl) rfl ?_;refine ZE 3 ?_;refine ZE 4 ?_;refine cR 5 rfl Zk Zk Zk (dk (j:=k+1) rfl Zrf (Zv rfl) (Zv rfl) (fun _=>by omega) (fun _=>by omega)) rfl ?_;refine eQ 6 rfl Zk Zk Zk Zk (bM Zrf Zv0) (fe h (df (l:=op::l) (j:=k+1) hx)) rfl ?_;refine cR 7 rfl Zk Zk Zk (cu rfl rfl (Zv rfl) (by first|exact IntWalk.u32_in _ ⟨by omega,by omega⟩|exact rfl)) rfl ?_;refine cR 8 rfl Zk Zk Zk (zW (Zv rfl) (Zv rfl) (show _=N k from by rw[hst];exact hor)) rfl ?_;refine ZFe 9 1 ?_;refine cE 10 Zk ?_;refine ZQ ?_;refine bO Zk ?_;refine Z_4 ?_;refine Zy (eP (Zv rfl) (Zv rfl) (show _=(k:Int)from by rw[IntWalk.i64_in _ ⟨by omega,by omega⟩];omega)) ?_;refine Z_2 ?_;refine eh (k) ?_ ?_ ?_
   ·exact⟨show k≤z by omega,show k<k+1 by omega⟩
   ·exact Zwk
   exact Zu
  simp only[aj]at hc10;obtain rfl:k=0:=(by omega);refine Z_9 ?_;refine ZM ?_;refine Z_5 ?_;refine AF (cs':=[]) (.inl rfl) Zu rfl rfl rfl rfl Zh Zrf Zrf ?_;exact⟨⟨0,rfl,rfl⟩,rfl⟩
end Go.Proofs.YtomjgmbccamgiaaGreatDoor
namespace Go.Ink
open Go.RowKit
theorem Bj{n:Nat}{M:Mem}{p:Nat}(h:n≤p/64):ft n M p=none:=by
 unfold ft;rw[aF (by omega)]
 rfl
theorem Bk{n:Nat}{M:Mem}{p:Nat}(h:p/64<n):ft n M p=dY (((M.data.drop (p/64*64)).take 64).drop (p%64)):=by
 unfold ft;rw[aG h]
 rfl
theorem Bq{w:World}{b j:Nat}{X:List Int}(h:Rd w .u8 (some ⟨b,0,none⟩) 64 64 X)(hj:j<64)(hX:X.length=64):Rd w .u8 (some ⟨b,j,none⟩) (64 - j) (64 - j) (X.drop j):=by
 have h5:=RdV.cut h (lo:=j) (hi:=64) (by omega) (aQ _);rw[if_neg (by omega),Option.map_some,Addr.add_lit,bo,Nat.mul_one]at h5;have e:(ints .u8 X).take 64=ints .u8 X:=List.take_of_length_le (by simp[ints,hX]);rw[e]at h5;have e2:(ints .u8 X).drop j=ints .u8 (X.drop j):=by simp[ints]
 rwa[e2]at h5
abbrev oK(b:Hg)(X:iv):List Value:=b.s.cells (.slice X.Ad b.s.d.length X.cd) (.slice X.Ar b.s.r.length X.cr)++[.int .u32 b.place,.bool b.runs]
end Go.Ink
namespace Go.Proofs.YtomjgmbccamgiaaGreatDoor
open Go.RowKit Go.Ink Go.Proofs.Tryz
attribute [local irreducible] OpY bW
theorem AE(L:gQ)(M:Mem)(p:Nat)(hp:L.n≤p)(w:World)(h:(eH L M).ok w):Ctr prog 90 [.pointer (some ⟨L.bm,0,none⟩),.int .i64 p] w [] (fun v cs=>v= .tuple #[.slice none 0 0,.bool false]∧cs=[]):=by
 obtain⟨n1,n64,hdl,hdb,htl⟩:=lr h;obtain⟨k0,hr0,h1,h2,h3,h4⟩:=nX h;refine bL func90 rfl ntmps90 rfl (Inv.start w) ?_;refine eo ?_;rw[aF (show¬(p:Int)<0 by omega)];refine Z_5 ?_;refine lA (bS rfl rfl) (bM Zrf (dc rfl)) (dL (by assumption) rfl) rfl ?_;refine ku (bS rfl rfl) rfl (eG rfl (fun _ _=>rfl) (fun w hi=>qA L.bt L.bp L.o L.bf L.bg L.n w (bJ.old h2 hi))) rfl ?_;rintro _ _ ⟨_,⟨rfl,rfl⟩,rfl⟩;refine Z_4 ?_;refine cB rfl ((by rw[aG (show(L.n:Int)≤p by omega)];rfl)) ?_;refine Z_8 ?_;refine fw (cs':=[]) (.inl rfl) Zu rfl rfl rfl ?_;exact⟨rfl,rfl⟩
theorem zx(bu bb:Nat)(L:gQ)(M:Mem)(p:Nat)(hp:p≤4294967295)(w:World)(hu:(B3 bu L.bm bb).ok w)(h:(eH L M).ok w):
  Ctr prog 94 [.pointer (some ⟨bu,0,none⟩),.int .u32 (p:Int)] w [] (fun v cs=>v= .tuple #[.agg (insV (ft L.n M p)).toArray,.int .i64 (insN (ft L.n M p):Int),.bool (ft L.n M p).isSome]∧cs=[]):=by
 obtain⟨n1,n64,hdl,hdb,htl⟩:=lr h;have hq:IntKind.u32.wrap ((p:Int).tdiv 64)=((p/64:Nat):Int):=by rw[bn (by omega),u32_wrap_id _ (by omega) (by omega)];omega
 have hrm:(p:Int).tmod 64=((p%64:Nat):Int):=by rw[aD (by omega)];omega
 by_cases hpn:p/64<L.n
 ·have HP:=uw L M (p/64) hpn;rw[Bk hpn];have hXl:((M.data.drop (p/64*64)).take 64).length=64:=by rw[az,bz];omega
  have hXb:u8s ((M.data.drop (p/64*64)).take 64):=fun x hx=>hdb x (List.mem_of_mem_drop (List.mem_of_mem_take hx))
  obtain⟨X,hX⟩:=Zgn ((M.data.drop (p/64*64)).take 64);rw[hX]at HP hXl hXb⊢;have hbl:(X.drop (p%64)).length=64 - p%64:=by rw[bz,hXl]
  have HD:=fun A c w h=>wV A c (X.drop (p%64)) (fun x hx=>hXb x (List.mem_of_mem_drop hx)) w h
  rw[hbl]at HD;obtain⟨o,ho⟩:=Zgn (dY (X.drop (p%64)));rw[ho]at HD⊢;refine bL func94 rfl ntmps94 rfl (Inv.start w) ?_;refine Z_2 ?_;refine ZN fun b4=>?_;refine eo ?_;refine bY rfl (rfl) ?_;refine Z_5 ?_;refine ZSe (fun w hi=>kR bu L.bm bb w (bJ.old hu hi)) ?_;refine ZA ?_;refine Zy (jA (Zv rfl) (Zv rfl) (by omega) hq) ?_;refine Zy (cu rfl rfl Zv0 Zl) ?_;refine ZS (fun w hi=>HP w (bJ.old h hi)) ?_;rintro _ _ ⟨_,⟨bq,rfl,rfl⟩,rfl⟩;refine ic ?_;refine bY rfl (rfl) ?_;refine Z_6 ?_;refine Zy (gt (Zv rfl) (Zv rfl) (by omega) hrm) ?_;refine Zy (kO (sz:=1) (lo:=p%64) (hi:=64) (r:=p%64) rfl Zrf (Zv rfl) (.inr ⟨_,_,rfl,(Zv rfl)⟩) (.inl ⟨rfl,rfl⟩) (by omega) (by omega) (by omega) (by omega)) ?_;refine ZS (fun w hi=>HD (some ⟨bq,p%64,none⟩) (64 - p%64) w (Bq (hi.rd (show Has _ (sl .u8 5 (some ⟨bq,0,none⟩) 64 64 X)from Zh)) (by omega) hXl)) ?_;rintro _ _ ⟨_,⟨⟨y,rfl,hy⟩,rfl⟩,rfl⟩;refine Z_4 ?_;refine ZN fun b9=>?_
  refine ZM ?_;refine Z_9 ?_;refine Zy (BM (Zv rfl) (Zv rfl) hy) ?_;refine ZM ?_;refine Z_5 ?_;refine AF (cs':=[]) (.inl rfl) Zu rfl rfl rfl rfl Zh Zrf Zrf ?_;exact⟨rfl,rfl⟩
 have HP:=AE L M (p/64) (by omega);rw[Bj (by omega)];refine bL func94 rfl ntmps94 rfl (Inv.start w) ?_;refine Z_2 ?_;refine ZN fun b4=>?_;refine eo ?_;refine bY rfl (rfl) ?_;refine Z_5 ?_;refine ZSe (fun w hi=>kR bu L.bm bb w (bJ.old hu hi)) ?_;refine ZA ?_;refine Zy (jA (Zv rfl) (Zv rfl) (by omega) hq) ?_;refine Zy (cu rfl rfl Zv0 Zl) ?_;refine ZSe (fun w hi=>HP w (bJ.old h hi)) ?_;refine ic ?_;refine cB rfl (rfl) ?_;refine Z_3 ?_;refine ZM ?_;refine Z_6 ?_;refine AF (cs':=[]) (.inl rfl) Zu rfl rfl rfl rfl Zh Zrf Zrf ?_;exact⟨rfl,rfl⟩
theorem CY(op nn:Int)(r:Res)(X:iv)(Ap:Option Addr)(cp:Nat)(Iy was:Int)(hpc:u32 r.s.pc)(hw:u32 was)(w:World)(h:Rd w .i64 Ap r.Ig.length cp r.Ig):
  Ctr prog 96 [.agg #[.int .i64 op,.int .u32 nn],.agg (kV r X Ap cp).toArray,.int .i64 Iy,.int .u32 was] w [] (fun v cs=>v= .bool (kC op r Iy was)∧cs=[]):=by
 have HC:=sj Ap cp r.Ig Iy;have hq:∀x:Int,u32 x→IntKind.u32.wrap (x.tdiv 64)=x/64:=fun x hx=>by obtain⟨h1,h2⟩:=hx;rw[bn h1,u32_wrap_id _ (by omega) (by omega)]
 refine bL func96 rfl ntmps96 rfl (Inv.start w) ?_;refine Z_2 ?_;refine ZO fun b4=>?_;refine ZO fun b5=>?_
 refine Z_8 ?_;refine ZSe (fun w hi=>u6 op w) ?_;refine vo ?_;refine dX (bS rfl rfl) (.cons (dc rfl) (.cons (dc rfl) .nil)) (fun _ _=>rfl) (fun hg w hi=>HC w (RdV.IB h hi)) rfl ?_;refine Z_3 ?_;refine ZW ?_ ?_<;>intro hc1
 ·refine Z_7 ?_;refine Zra ?_;exact⟨by unfold kC;rw[hc1];rfl,rfl⟩
 refine Z_7 ?_;refine Zy (jA (Zv rfl) (Zv rfl) (by omega) (hq _ hpc)) ?_;refine ZA ?_;refine Zy (jA (Zv rfl) (Zv rfl) (by omega) (hq _ hw)) ?_;refine Z_5 ?_;refine Zra ?_;exact⟨by unfold kC;rw[hc1];rfl,rfl⟩
end Go.Proofs.YtomjgmbccamgiaaGreatDoor
namespace Go.Ink
open Go.RowKit
theorem tK{b:Nat}:∀{m k x:Nat},uT b k m=some x→x<k+m
 |0,_,_,h=>by cases h
 |m+1,k,x,h=>by
  unfold uT at h;cases hc:(b/2^k%2==1)with
  |true=>rw[hc,ac]at h;obtain rfl:=aJ h;omega
  |false=>rw[hc,aa]at h;have:=tK h;omega
theorem low_lt{b x:Nat}(h:nY b=some x):x<8:=by have:=tK h;omega
structure Dev.lines(d:Dev):Prop where
 mask:0≤d.mask∧d.mask≤255
theorem Ib{p m:Int}(hm:0≤m∧m≤255):∃x:Nat,bits .and .u32 p m=(x:Int)∧x<256:=by
 unfold bits;simp only;rw[aE];have hmt:(BitVec.ofInt IntKind.u32.bits m).toNat≤255:=by
  rw[BitVec.toNat_ofInt];have:(m%((2^IntKind.u32.bits:Nat):Int))=m:=Int.emod_eq_of_lt hm.1 (by have:((2^IntKind.u32.bits:Nat):Int)=4294967296:=rfl;omega);rw[this];omega
 have h1:=Nat.and_le_right (n:=(BitVec.ofInt IntKind.u32.bits p).toNat) (m:=(BitVec.ofInt IntKind.u32.bits m).toNat);refine⟨(BitVec.ofInt IntKind.u32.bits p&&&BitVec.ofInt IntKind.u32.bits m).toNat%4294967296,?_,?_⟩
 ·simp
 rw[BitVec.toNat_and];omega
theorem tY{n:Nat}{s:St}{U:Mmu}{d:Dev}(h:(!s.right||s.halted)=true):JE n s U d=⟨s,0,false,U,d⟩:=by
 unfold JE;rw[h]
 rfl
theorem tZ{n:Nat}{s s1:St}{U:Mmu}{d d1:Dev}(h:(!s.right||s.halted)=false)(hd:d.tick s.count=d1)(hs:told s d1=s1):JE n s U d=sC n s1 U d1:=by
 unfold JE;rw[h,hd,hs]
 rfl
theorem Fk{s:St}{d:Dev}{x k:Nat}(hx:bits .and .u32 d.IH d.mask=(x:Int))(ho:nY x=some k)(hie:s.ie=true):told s d=s.Iv ((16+k:Nat):Int) 0:=by
 unfold told Gv;rw[hx,aS,ho];show(bif s.ie then _ else _)=_;rw[hie]
 rfl
theorem told_no{s:St}{d:Dev}{x:Nat}(hx:bits .and .u32 d.IH d.mask=(x:Int))(h:((nY x).isSome&&s.ie)=false):told s d=s:=by
 unfold told Gv;rw[hx,aS];cases ho:nY x with
 |none=>rfl
 |some k=>
  rw[ho]at h;show(bif s.ie then _ else _)=_;cases hie:s.ie with
  |true=>rw[hie]at h;cases h
  |false=>rfl
end Go.Ink
namespace Go.Proofs.YtomjgmbccamgiaaGreatDoor
open Go.RowKit Go.Ink Go.Proofs.Tryz
attribute [local irreducible] OpY bW
theorem zP(bu bb:Nat)(L:gQ)(D:p6)(Y:j0)(s:St)(hwf:s.wf)(Ad Ar:Option Addr)(cd cr:Nat)(U:Mmu)(hT:U.t.length=16)(d:Dev)(hm:(d.tick s.count).lines)(w:World)(hi:Inv w (bK (ubF bu bb L D Y U d)) (ubF bu bb L D Y U d) w)
  (h:∀w',dQ (bK (ubF bu bb L D Y U d)) w w'→mR w' s Ad Ar cd cr) (ht:∀w',dQ (bK (ubF bu bb L D Y U d)) w w'→lv w'):
  Ctr prog 51 [sv s Ad cd Ar cr,.pointer (some ⟨bu,0,none⟩),.pointer (some ⟨D.bs,0,none⟩)] w (ubF bu bb L D Y U d)
   (fun v cs=>∃X,v= .agg (oK (JE L.n s U d) X).toArray∧cs=[slD (JE L.n s U d).s X.Ad X.cd,slR (JE L.n s U d).s X.Ar X.cr]++ubF bu bb L D Y (JE L.n s U d).u (JE L.n s U d).d):=by
 have HR:=mC s Ad Ar cd cr;have HR2:=mC s;cases hrh:(!s.right||s.halted)with
 |true=>
  rw[tY hrh];obtain⟨rt,hrt⟩:=Zgn (s.right);rw[hrt]at HR2 hrh;refine bL func51 rfl ntmps51 rfl hi ?_;refine Z_2 ?_;refine ZO fun b3=>?_;refine ZN fun b6=>?_
  refine Z_5 ?_;refine ZS (fun w hi=>jp s Ad Ar cd cr w (h w hi.IG)) ?_;rintro _ _ ⟨_,⟨A1,c1,A2,c2,rfl,rfl⟩,rfl⟩;refine ZM ?_;refine Z_6 ?_;refine ZSe (fun w hi=>HR2 A1 A2 c1 c2 w) ?_;refine qp ?_;refine cB rfl ((by rw[hrh];rfl)) ?_;refine Z_4 ?_;refine ZM ?_;refine Z_4 ?_;refine bQ ([row b6 (oK ⟨s,0,false,U,d⟩ ⟨A1,c1,A2,c2⟩) 110,slD s A1 c1,slR s A2 c2]++ubF bu bb L D Y U d) Zj ?_;refine kk (cs':=([slD s A1 c1,slR s A2 c2]++ubF bu bb L D Y U d)) (.inl rfl) Zu rfl rfl Zh Zrf Zrf ?_;exact⟨⟨A1,c1,A2,c2⟩,rfl,rfl⟩
 |false=>
  simp only[bl,Bool.not_eq_false']at hrh;obtain⟨hr,hh⟩:=hrh;obtain⟨hd16,hr16,hf15⟩:=St.fits hr;obtain⟨d1,hd1⟩:=Zgn (d.tick s.count);obtain⟨s1,hs1⟩:=Zgn (told s d1);rw[tZ (by rw[hr,hh];rfl) hd1 hs1];rw[hd1]at hm;obtain⟨x,hx,hx256⟩:=Ib (p:=d1.IH) hm.mask;have HN:=Ba D.bi x d1.IH d1.mask hx hx256;have HK:=tick_ok D L.bm Y d s.count;rw[hd1]at HK;have hY:=fun k h1 h2=>Fk (s:=s) (d:=d1) (x:=x) (k:=k) hx h1 h2
  have hN:=told_no (s:=s) (d:=d1) (x:=x) hx;have hlt:=fun k (h:nY x=some k)=>low_lt h
  obtain⟨o,ho⟩:=Zgn (nY x);rw[ho]at HN hY hN hlt;have hw1:s1.wf∧s1.d.length≤16∧s1.r.length≤16:=by
   cases hc:(o.isSome&&s.ie)with
   |true=>
    cases o with
    |none=>cases hc
    |some k=>
     have hie:s.ie=true:=hc;rw[←hs1,hY k rfl hie];exact⟨⟨hwf.vec,hwf.flags,hwf.root,hwf.vec,hwf.pc,gM _,u0,hwf.count,hwf.d,hwf.r⟩,hd16,hr16⟩
   |false=>rw[←hs1,hN hc];exact⟨hwf,hd16,hr16⟩
  obtain⟨hwf1,hs16,hq16⟩:=hw1;refine bL func51 rfl ntmps51 rfl hi ?_;refine Z_2 ?_;refine ZO fun b3=>?_;refine ZN fun b6=>?_
  refine Z_5 ?_;refine ZS (fun w hi=>jp s Ad Ar cd cr w (h w hi.IG)) ?_;rintro _ _ ⟨_,⟨A1,c1,A2,c2,rfl,rfl⟩,rfl⟩;refine ZM ?_;refine Z_6 ?_;refine ZSe (fun w hi=>HR2 A1 A2 c1 c2 w) ?_;refine qp ?_;refine bY rfl ((by rw[hr,hh];rfl)) ?_;refine Z_7 ?_;refine ZcM (mO D L.bm Y d) (fun w hi hin=>HK w hin) ?_;refine Z_2 ?_;refine de (fun X:iv=>[(1,.pointer (some ⟨bu,0,none⟩)),(3,.pointer (some ⟨b3,0,none⟩)),(6,.pointer (some ⟨b6,0,none⟩))]) (fun X=>[row b3 (s1.cells (.slice X.Ad s1.d.length X.cd) (.slice X.Ar s1.r.length X.cr)) 38,row b6 (oK ⟨St.zero,0,false,U,d⟩ ⟨none,0,none,0⟩) 110,slD s1 X.Ad X.cd,slR s1 X.Ar X.cr]++ubF bu bb L D Y U d1) (fun _=>True) ?_ ?_
  ·refine Z_6 ?_;refine ZSe (fun w hi=>HN w (hi.get Zh) (ht w hi.IG)) ?_;refine p5 ?_;refine ZW ?_ ?_<;>intro hc6
   ·obtain⟨k,rfl⟩:∃k,o=some k:=(by cases o with|none=>cases hc6|some k=>exact⟨k,rfl⟩);have hk8:=hlt k rfl;obtain rfl:s1=s.Iv ((16+k:Nat):Int) 0:=(by rw[←hs1];exact hY k rfl hc6);refine Z_3 ?_;refine Zy (cF (Zv rfl) (Zv rfl) (show _=((16+k:Nat):Int)from by rw[IntWalk.i64_in _ ⟨by show -9223372036854775808≤(16:Int)+((k:Nat):Int);omega,by show(16:Int)+((k:Nat):Int)≤9223372036854775807;omega⟩];show(16:Int)+((k:Nat):Int)=_;omega)) ?_;refine ZS (fun w hi=>oO s A1 A2 c1 c2 ((16+k:Nat):Int) 0 w (hi.Jh (show Has _ (slD s A1 c1)from Zh) (show Has _ (slR s A2 c2)from Zh) (by omega) (by omega))) ?_;rintro _ _ ⟨_,⟨A3,c3,A4,c4,rfl,rfl⟩,rfl⟩;refine ZM ?_;refine Zn ?_;refine cz ((⟨A3,c3,A4,c4⟩:iv)) ?_ ?_ ?_
    ·trivial
    ·exact Zwk
    exact Zj
   obtain rfl:s1=s:=(by rw[←hs1];exact hN hc6);refine Zc ?_;refine cz ((⟨A1,c1,A2,c2⟩:iv)) ?_ ?_ ?_
   ·trivial
   ·exact Zwk
   exact Zj
  rintro⟨A5,c5,A6,c6⟩ -;clear hY hN hs1;obtain⟨pc,dd,rr,fl,su,pg,ie,rt,ve,ep,ca,ad,es,ei,co,ha⟩:=s1;obtain⟨pcN,rfl⟩:∃m:Nat,pc=m:=ar hwf1.pc.1;obtain⟨rtN,rfl⟩:∃m:Nat,rt=m:=ar hwf1.root.1;have hpc2:=hwf1.pc.2;have hrt2:=hwf1.root.2;dsimp only at hpc2 hrt2 hs16 hq16;have HP:=nG bu bb L U hT ⟨pg,su,rtN⟩ (show rtN≤4294967295 by omega) pcN (by omega) 1;have hgo:sC L.n ⟨pcN,dd,rr,fl,su,pg,ie,rtN,ve,ep,ca,ad,es,ei,co,ha⟩ U d1=(bif(cW L.n U ⟨pg,su,rtN⟩ pcN 1).1.2.Im !=0 then⟨St.Iv (St.next ⟨pcN,dd,rr,fl,su,pg,ie,rtN,ve,ep,ca,ad,es,ei,co,ha⟩) (cW L.n U ⟨pg,su,rtN⟩ pcN 1).1.2.Im (cW L.n U ⟨pg,su,rtN⟩ pcN 1).1.2.addr,0,false,(cW L.n U ⟨pg,su,rtN⟩ pcN 1).2,d1⟩else⟨⟨pcN,dd,rr,fl,su,pg,ie,rtN,ve,ep,ca,ad,es,ei,co,ha⟩,(cW L.n U ⟨pg,su,rtN⟩ pcN 1).1.1,true,(cW L.n U ⟨pg,su,rtN⟩ pcN 1).2,d1⟩):=rfl;obtain⟨⟨⟨pl,⟨tc,ta⟩⟩,U1⟩,hq⟩:=Zgn (cW L.n U ⟨pg,su,rtN⟩ pcN 1);rw[hq]at HP hgo;dsimp only at hgo;rw[hgo];refine gK ?_;refine ZcM (uF bu bb L U) (fun w hi hin=>HP w hin) ?_;refine Z_3 ?_;refine ZN fun b10=>?_
  refine ZA ?_;refine ZM ?_;refine eK ?_;refine ZW ?_ ?_<;>intro hc9
  ·rw[hc9,ac];refine Z_4 ?_;refine Zy (cF Zv0 Zv0 rfl) ?_;refine Z_1 ?_;refine ZL ?_;refine Z_9 ?_;refine ZS (fun w hi=>oO (St.next ⟨pcN,dd,rr,fl,su,pg,ie,rtN,ve,ep,ca,ad,es,ei,co,ha⟩) A5 A6 c5 c6 tc ta w (hi.Jh (show Has _ (sl .u32 34 A5 dd.length c5 dd)from Zh) (show Has _ (sl .u32 34 A6 rr.length c6 rr)from Zh) (show dd.length*4≤_ by omega) (show rr.length*4≤_ by omega))) ?_;rintro _ _ ⟨_,⟨A7,c7,A8,c8,rfl,rfl⟩,rfl⟩;refine ZA ?_;refine ZM ?_;refine Z_4 ?_;refine bQ ([row b6 (oK ⟨St.Iv (St.next ⟨pcN,dd,rr,fl,su,pg,ie,rtN,ve,ep,ca,ad,es,ei,co,ha⟩) tc ta,0,false,U1,d1⟩ ⟨A7,c7,A8,c8⟩) 110,sl .u32 34 A7 dd.length c7 dd,sl .u32 34 A8 rr.length c8 rr]++ubF bu bb L D Y U1 d1) Zj ?_;refine kk (cs':=([sl .u32 34 A7 dd.length c7 dd,sl .u32 34 A8 rr.length c8 rr]++ubF bu bb L D Y U1 d1)) (.inl rfl) Zu rfl rfl Zh Zrf Zrf ?_;exact⟨⟨A7,c7,A8,c8⟩,rfl,rfl⟩
  rw[hc9,aa];refine Z_7 ?_;refine ZM ?_;refine Z_3 ?_;refine bQ ([row b6 (oK ⟨⟨pcN,dd,rr,fl,su,pg,ie,rtN,ve,ep,ca,ad,es,ei,co,ha⟩,pl,true,U1,d1⟩ ⟨A5,c5,A6,c6⟩) 110,sl .u32 34 A5 dd.length c5 dd,sl .u32 34 A6 rr.length c6 rr]++ubF bu bb L D Y U1 d1) Zj ?_;refine kk (cs':=([sl .u32 34 A5 dd.length c5 dd,sl .u32 34 A6 rr.length c6 rr]++ubF bu bb L D Y U1 d1)) (.inl rfl) Zu rfl rfl Zh Zrf Zrf ?_;exact⟨⟨A5,c5,A6,c6⟩,rfl,rfl⟩
end Go.Proofs.YtomjgmbccamgiaaGreatDoor
namespace Go.Ink
open Go.RowKit
section
variable {n:Nat} {op nn:Int} {s:St} {U:Mmu} {d:Dev} {M:Mem} {R:Run}
theorem sP(h:d.lines)(k:Int)(v:Nat):(cZ n M d k v).2.2.lines:=by
 have hz:0≤bits .and .u32 (v:Int) 255∧bits .and .u32 (v:Int) 255≤255:=by
  obtain⟨x,hx,hlt⟩:=Ib (p:=(v:Int)) (m:=255) ⟨by decide,by decide⟩;omega
 unfold cZ fN;refine bN (fun q:Bool×Mem×Dev=>q.2.2.lines) ⟨h.mask⟩ ?_;refine bN (fun q:Bool×Mem×Dev=>q.2.2.lines) ⟨hz⟩ ?_;refine bN (fun q:Bool×Mem×Dev=>q.2.2.lines) ⟨h.mask⟩ ?_;refine bN (fun q:Bool×Mem×Dev=>q.2.2.lines) ⟨h.mask⟩ ?_;refine bN (fun q:Bool×Mem×Dev=>q.2.2.lines) ⟨h.mask⟩ ?_;refine bN (fun q:Bool×Mem×Dev=>q.2.2.lines) ⟨h.mask⟩ ?_;refine bN (fun q:Bool×Mem×Dev=>q.2.2.lines) ⟨h.mask⟩ ?_
 repeat (refine bN (fun q:Bool×Mem×Dev=>q.2.2.lines) h ?_)
 exact h
theorem vf(h:d.lines)(k count:Int):(dx d k count).2.lines:=by
 unfold dx
 repeat (first|exact h|refine bN (fun q:(Int×Bool)×Dev=>q.2.lines) ?_ ?_|exact⟨h.mask⟩)
theorem AX(h:d.lines)(va:Nat):(lm n R U d va).d.lines:=by
 unfold lm;refine bN (fun m:iu=>m.d.lines) h ?_;exact bN (fun m:iu=>m.d.lines) (vf h _ _) h
theorem Ay(h:d.lines)(va v:Nat):(lj n R U d va v).d.lines:=by
 unfold lj;refine bN (fun m:iu=>m.d.lines) h ?_;exact bN (fun m:iu=>m.d.lines) (sP h _ _) h
theorem xR{m:iu}(h:m.d.lines):(dV n op nn m).d.lines:=by
 unfold dV;refine bN (fun m:iu=>m.d.lines) (AX h _) ?_;refine bN (fun m:iu=>m.d.lines) (Ay h _ _) ?_;refine bN (fun m:iu=>m.d.lines) h ?_;refine bN (fun m:iu=>m.d.lines) h ?_;refine bN (fun m:iu=>m.d.lines) h ?_;refine bN (fun m:iu=>m.d.lines) h ?_;refine bN (fun m:iu=>m.d.lines) h ?_;refine bN (fun m:iu=>m.d.lines) h ?_;refine bN (fun m:iu=>m.d.lines) h ?_;refine bN (fun m:iu=>m.d.lines) h ?_;refine bN (fun m:iu=>m.d.lines) h ?_;exact bN (fun m:iu=>m.d.lines) h h
theorem C7(h:d.lines):(rA n s op nn U d).d.lines:=by
 unfold rA;cases dO op nn (eY s op)with
 |some R=>exact h
 |none=>exact bN (fun m:iu=>m.d.lines) h (xR h)
theorem qG(h:d.lines):(vd n s op nn U d).2.2.lines:=by
 unfold vd;refine bN (fun q:Res×Mmu×Dev=>q.2.2.lines) h ?_;exact bN (fun q:Res×Mmu×Dev=>q.2.2.lines) h (C7 h)
theorem oP(h:d.lines)(c:Int):(d.tick c).lines:=by
 unfold Dev.tick;exact bN Dev.lines h ⟨h.mask⟩
theorem Fp(h:d.ok)(c:Int):(d.tick c).ok∧(d.tick c).out=d.out:=by
 unfold Dev.tick;exact bN (fun q:Dev=>q.ok∧q.out=d.out) ⟨h,rfl⟩ ⟨⟨h.wf.re rfl rfl rfl rfl,ii .or d.IH 1,h.mask,u0,h.status⟩,rfl⟩
theorem mj{b:List Int}(hb:u8s b){op nn:Int}{z:Nat}(h:dY b=some ((op,nn),z)):u32 nn∧1≤z∧z≤5∧z≤b.length:=by
 cases b with
 |nil=>cases h
 |cons o l=>
  have hc:cG o=0∨cG o=1∨cG o=2∨cG o=5:=jf o;unfold dY at h;cases h1:(cG o==0)with
  |true=>simp only[h1,ac]at h;cases h
  |false=>
   simp only[h1,aa]at h;cases h2:decide ((l.length:Int)+1<cG o)with
   |true=>simp only[h2,ac]at h;cases h
   |false=>
    simp only[h2,aa,aU,aX]at h;obtain⟨⟨rfl,rfl⟩,rfl⟩:=h;have h1:=ne_of_beq_false h1;simp only[aj]at h2;obtain⟨r1,r2⟩:=uV (l:=l.take ((cG o).toNat - 1)) (fun x hx=>hb x (bC _ (List.mem_of_mem_take hx)));have hl:(l.take ((cG o).toNat - 1)).length≤4:=by rw[az];omega
    have hp:(256^(l.take ((cG o).toNat - 1)).length:Nat)≤256^4:=Nat.pow_le_pow_right (by decide) hl;have e4:(256^4:Nat)=4294967296:=by decide
    refine⟨⟨r1,by omega⟩,by omega,by omega,?_⟩;rw[ai];omega
theorem lb(hM:M.ok n){p:Nat}{op nn:Int}{z:Nat}(h:ft n M p=some ((op,nn),z)):u32 nn∧1≤z∧z≤5∧p/64<n∧p%64+z≤64:=by
 unfold ft at h;cases h1:decide (p/64<n)with
 |false=>rw[h1]at h;cases h
 |true=>
  rw[h1,ac]at h;obtain⟨a,b,c,e⟩:=mj (fun x hx=>hM.db x (List.mem_of_mem_drop (List.mem_of_mem_take (List.mem_of_mem_drop hx)))) h;refine⟨a,b,c,by simpa using h1,?_⟩;rw[bz,az]at e;omega
end
structure GOk(n:Nat)(s:St)(U:Mmu)(d:Dev):Prop where
 wf:s.wf
 right:s.right=true
 u:UOk n U
 dv:d.ok
 lines:d.lines
theorem mv(a b c:Int):IntKind.u64.wrap (IntKind.u64.wrap (a+b)+c)=IntKind.u64.wrap (a+(b+c)):=by
 rw[aW,aW,aW];omega
section
variable {n:Nat} {s:St} {U:Mmu} {d:Dev}
theorem CZ(h:s.wf):s.next.wf:=⟨h.pc,h.flags,h.root,h.vec,h.epc,h.Im,h.addr,by show 0≤IntKind.u64.wrap _∧IntKind.u64.wrap _≤_;rw[aW];omega,h.d,h.r⟩
theorem yJ(h:s.wf)(c:Int){a:Int}(ha:u32 a):(s.Iv c a).wf:=⟨h.vec,h.flags,h.root,h.vec,h.pc,gM _,ha,h.count,h.d,h.r⟩
theorem Cf(h:s.wf)(hr:s.right=true):(told s d).wf∧(told s d).right=true∧(told s d).count=s.count∧(told s d).halted=s.halted:=by
 unfold told;cases Gv d with
 |none=>exact⟨h,hr,rfl,rfl⟩
 |some k=>
  show(bif s.ie then s.Iv _ _ else s).wf∧(bif s.ie then s.Iv _ _ else s).right=true∧(bif s.ie then s.Iv _ _ else s).count=s.count∧(bif s.ie then s.Iv _ _ else s).halted=s.halted;cases s.ie with
  |true=>exact⟨yJ h _ u0,hr,rfl,rfl⟩
  |false=>exact⟨h,hr,rfl,rfl⟩
structure BegOk(n:Nat)(s:St)(d:Dev)(b:Hg):Prop where
 g:GOk n b.s b.u b.d
 place:u32 b.place
 out:b.d.out=d.out
 runs:b.runs=true→b.s.count=s.count∧b.s.halted=s.halted∧s.halted=false
 stays:b.runs=false→s.halted=false→b.s.count=IntKind.u64.wrap (s.count+1)∧b.s.halted=false
 held:s.halted=true→b=⟨s,0,false,b.u,b.d⟩
theorem mQ(h:GOk n s U d):BegOk n s d (JE n s U d):=by
 obtain⟨t1,t2⟩:=Fp h.dv s.count;have t3:=oP h.lines s.count;obtain⟨w1,w2,w3,w4⟩:=Cf (s:=s) (d:=d.tick s.count) h.wf h.right;cases hh:s.halted with
 |true=>
  rw[tY (by rw[hh,Bool.or_true])];exact⟨h,u0,rfl,fun e=>(by cases e),fun _ e=>(by rw[hh]at e;cases e),fun _=>rfl⟩
 |false=>
  rw[tZ (by rw[h.right,hh];rfl) rfl rfl];rw[hh]at w4;obtain⟨s1,hs1⟩:=Zgn (told s (d.tick s.count));rw[hs1]at w1 w2 w3 w4⊢;unfold sC;have hpc:s1.pc.toNat≤4294967295:=by have:=w1.pc;unfold u32 at this;omega
  have p1:=kY h.u s1.space s1.pc.toNat 1;obtain⟨p2, -⟩:=je n U s1.space s1.pc.toNat hpc 1;have p3:=mE n U s1.space s1.pc.toNat hpc 1;obtain⟨⟨⟨pl,⟨tc,ta⟩⟩,U1⟩,hq⟩:=Zgn (cW n U s1.space s1.pc.toNat 1);rw[hq]at p1 p2 p3⊢;dsimp only at p1 p2 p3⊢;cases htc:(tc !=0)with
  |true=>
   rw[ac];exact⟨⟨yJ (CZ w1) _ p3.1,w2,p1,t1,t3⟩,u0,t2,fun e=>(by cases e),fun _ _=>⟨by show IntKind.u64.wrap (s1.count+1)=_;rw[w3],w4⟩,fun e=>(by rw[hh]at e;cases e)⟩
  |false=>
   rw[aa];exact⟨⟨w1,w2,p1,t1,t3⟩,p2,t2,fun _=>⟨w3,w4.trans hh.symm,hh⟩,fun e=>(by cases e),fun e=>(by rw[hh]at e;cases e)⟩
structure EQ(n k:Nat)(s:St)(d:Dev)(q:St×Mmu×Dev):Prop where
 g:GOk n q.1 q.2.1 q.2.2
 out:q.2.2.out.length≤d.out.length+k
 count:∃j:Nat,j≤k∧(1≤k→1≤j)∧q.1.count=IntKind.u64.wrap (s.count+(j:Int))
theorem vR(Iy:Nat):∀(k:Nat) {s:St} (p:Nat) {U:Mmu} {d:Dev},GOk n s U d→EQ n k s d (eZ n Iy k s p U d)
 |0,s,p,U,d,h=>⟨h,aQ _,0,aQ _,fun e=>(by omega),by
   show s.count=IntKind.u64.wrap (s.count+0);have:=h.wf.count;rw[aW];omega⟩
 |k+1,s,p,U,d,h=>by
  unfold eZ;cases hf:ft n U.m p with
  |none=>exact⟨⟨yJ (CZ h.wf) _ u0,h.right,h.u,h.dv,h.lines⟩,by show d.out.length≤_;omega,1,by omega,fun _=>aQ _,rfl⟩
  |some o=>
   obtain⟨⟨op,nn⟩,z⟩:=o;obtain⟨f1, -⟩:=lb h.u.m hf;have hg:=sc (op:=op) (nn:=nn) h.wf h.right f1 h.u h.dv;have hl:=qG (n:=n) (op:=op) (nn:=nn) (s:=s) (U:=U) h.lines;obtain⟨⟨q,U1,d1⟩,hq⟩:=Zgn (vd n s op nn U d);rw[hq]at hg hl;obtain⟨g1,g2,g3,g4,g5,g6⟩:=hg;dsimp only at g1 g2 g3 g4 g5 g6 hl⊢;rw[hq];dsimp only;cases kC op q Iy s.pc with
   |false=>exact⟨⟨g1,g2,g4,g5,hl⟩,by show d1.out.length≤_;omega,1,by omega,fun _=>aQ _,g3⟩
   |true=>
    obtain⟨r1,r2,j,r3,r4,r5⟩:=vR Iy k ((p+z)%4294967296) (s:=q.s) (U:=U1) (d:=d1) ⟨g1,g2,g4,g5,hl⟩;refine⟨r1,by show _≤_;exact aY r2 (by omega),j+1,by omega,fun _=>by omega,?_⟩;show(eZ n Iy k q.s ((p+z)%4294967296) U1 d1).1.count=_;rw[r5,g3,mv,show(1:Int)+(j:Int)=((j+1:Nat):Int) by omega]
theorem mP(h:GOk n s U d):EQ n 8 s d (dT n s U d)∨(s.halted=true∧(dT n s U d).1=s∧GOk n (dT n s U d).1 (dT n s U d).2.1 (dT n s U d).2.2∧(dT n s U d).2.2.out=d.out):=by
 have hb:=mQ h;unfold dT;obtain⟨b,hbe⟩:=Zgn (JE n s U d);rw[hbe]at hb⊢;dsimp only;cases hr:b.runs with
 |true=>
  obtain⟨c1,c2,c3⟩:=hb.runs hr;have hq:=vR (b.place.toNat/64) 8 b.place.toNat hb.g;left;refine⟨hq.g,by have:=hq.out;rw[hb.out]at this;exact this,?_⟩;obtain⟨j,j1,j2,j3⟩:=hq.count;exact⟨j,j1,j2,by rw[←c1];exact j3⟩
 |false=>
  cases hh:s.halted with
  |false=>
   obtain⟨c1,c2⟩:=hb.stays hr hh;left;exact⟨hb.g,by show b.d.out.length≤_;rw[hb.out];omega,1,by omega,fun _=>aQ _,c1⟩
  |true=>
   right;have e:=hb.held hh;exact⟨rfl,by show b.s=s;rw[e],hb.g,hb.out⟩
theorem Bw(h:GOk n s U d)(hh:s.halted=false):EQ n 8 s d (dT n s U d):=by
 rcases mP h with h1|⟨h1, -⟩
 ·exact h1
 rw[hh]at h1;cases h1
end
theorem xI{n Iy k:Nat}{s:St}{p:Nat}{U:Mmu}{d:Dev}(h:ft n U.m p=none):eZ n Iy (k+1) s p U d=(s.next.Iv 1 0,U,d):=by
 unfold eZ;rw[h]
theorem xH{n Iy k:Nat}{s:St}{p:Nat}{U U1:Mmu}{d d1:Dev}{op nn:Int}{z:Nat}{q:Res}(h:ft n U.m p=some ((op,nn),z))(hq:vd n s op nn U d=(q,U1,d1)):
  eZ n Iy (k+1) s p U d=bif kC op q Iy s.pc then eZ n Iy k q.s ((p+z)%4294967296) U1 d1 else(q.s,U1,d1):=by
 rw[eZ,h];simp only[hq]
end Go.Ink
namespace Go.Proofs.YtomjgmbccamgiaaGreatDoor
open Go.RowKit Go.Ink Go.Proofs.Tryz
attribute [local irreducible] OpY bW
abbrev guF(bu bb:Nat)(L:gQ)(D:p6)(s:St)(X:iv)(Y:j0)(U:Mmu)(d:Dev):List bJ:=slD s X.Ad X.cd::slR s X.Ar X.cr::ubF bu bb L D Y U d
theorem rest_ok(bu bb:Nat)(L:gQ)(D:p6)(Y:j0)(s:St)(X:iv)(p:Nat)(hp:p≤4294967295)(IE:Nat)(hmost:IE≤1000)(U:Mmu)(d:Dev)(hG:GOk L.n s U d)(ho:d.out.length+IE≤1000000000)(w:World)(hi:Inv w (bK (guF bu bb L D s X Y U d)) (guF bu bb L D s X Y U d) w):
  Ctr prog 55 [sv s X.Ad X.cd X.Ar X.cr,.int .u32 (p:Int),.int .i64 (IE:Int),.pointer (some ⟨bu,0,none⟩),.pointer (some ⟨D.bs,0,none⟩)] w (guF bu bb L D s X Y U d)
   (fun v cs=>∃X' Y',v=sv (eZ L.n (p/64) IE s p U d).1 X'.Ad X'.cd X'.Ar X'.cr∧cs=guF bu bb L D (eZ L.n (p/64) IE s p U d).1 X' Y' (eZ L.n (p/64) IE s p U d).2.1 (eZ L.n (p/64) IE s p U d).2.2):=by
 obtain⟨pg,hpg⟩:=Zgn (p/64);have hpq:IntKind.u32.wrap ((p:Int).tdiv 64)=(pg:Int):=by rw[bn (by omega),u32_wrap_id _ (by omega) (by omega)];omega
 have hpgl:pg≤4294967295:=by omega
 rw[hpg];clear hpg;obtain⟨⟨s9,U9,d9⟩,hR⟩:=Zgn (eZ L.n pg IE s p U d);rw[hR];have ho0:d.out.length≤d.out.length+0:=aQ _;obtain⟨o0,hoo⟩:=Zgn (d.out.length);rw[hoo]at ho;refine bL func55 rfl ntmps55 rfl hi ?_;refine Z_2 ?_;refine ZO fun b5=>?_;refine ZN fun b10=>?_
 refine Z_5 ?_;refine Zy (jA (Zv rfl) (Zv rfl) (by omega) hpq) ?_;refine Zy (cu rfl rfl Zv0 Zl) ?_;refine Z_6 ?_;refine kQ (row b5 (s.cells (.slice X.Ad s.d.length X.cd) (.slice X.Ar s.r.length X.cr)) 38::row b10 (St.zero.cells (.slice none 0 0) (.slice none 0 0)) 38::guF bu bb L D s X Y U d) Zj ?_;refine Z_5 ?_;refine cJ (fun q:Nat×St×iv×Nat×j0×Mmu×Dev=>[(1,.int .u32 (q.2.2.2.1:Int)),(3,.pointer (some ⟨bu,0,none⟩)),(4,.pointer (some ⟨D.bs,0,none⟩)),(5,.pointer (some ⟨b5,0,none⟩)),(10,.pointer (some ⟨b10,0,none⟩)),(11,.int .i64 (pg:Int)),(20,.int .i64 (IE:Int)),(21,.int .i64 (q.1:Int))]) (fun q=>row b5 (q.2.1.cells (.slice q.2.2.1.Ad q.2.1.d.length q.2.2.1.cd) (.slice q.2.2.1.Ar q.2.1.r.length q.2.2.1.cr)) 38::row b10 (St.zero.cells (.slice none 0 0) (.slice none 0 0)) 38::guF bu bb L D q.2.1 q.2.2.1 q.2.2.2.2.1 q.2.2.2.2.2.1 q.2.2.2.2.2.2) (fun q=>q.1≤IE∧q.2.2.2.1≤4294967295∧GOk L.n q.2.1 q.2.2.2.2.2.1 q.2.2.2.2.2.2∧q.2.2.2.2.2.2.out.length≤o0+q.1∧eZ L.n pg (IE - q.1) q.2.1 q.2.2.2.1 q.2.2.2.2.2.1 q.2.2.2.2.2.2=(s9,U9,d9)) (fun q=>IE - q.1) (⟨0,s,X,p,Y,U,d⟩) ?_ ?_ ?_ ?_
 ·exact⟨aw _,hp,hG,by show d.out.length≤o0+0;omega,hR⟩
 ·exact Zwk
 ·exact Zu
 rintro⟨j,s,X,p,Y,U,d⟩ ⟨hj,hp,hG,ho1,hRj⟩;dsimp only at hj hp hG ho1 hRj⊢;refine Z_6 ?_;refine ZW ?_ ?_<;>intro hc3
 ·simp only[ap]at hc3;obtain⟨k,hk⟩:∃k,IE - j=k+1:=⟨IE - j - 1,by omega⟩;rw[hk]at hRj;have HF:=zx bu bb L U.m p hp;have hrn:=fun(op nn:Int) (z:Nat) h=>lb (n:=L.n) (M:=U.m) (p:=p) (op:=op) (nn:=nn) (z:=z) hG.u.m h
  have hN:=xI (n:=L.n) (Iy:=pg) (k:=k) (s:=s) (p:=p) (U:=U) (d:=d);have hS:=fun(op nn:Int) (z:Nat) (q:Res) (U1:Mmu) (d1:Dev) h hq=>xH (n:=L.n) (Iy:=pg) (k:=k) (s:=s) (p:=p) (U:=U) (d:=d) (op:=op) (nn:=nn) (z:=z) (q:=q) (U1:=U1) (d1:=d1) h hq
  obtain⟨o,hfo⟩:=Zgn (ft L.n U.m p);rw[hfo]at HF hN hS;rw[hfo]at hrn;obtain⟨hd16,hr16, -⟩:=St.fits hG.right;refine Z_8 ?_;refine ZSe (fun w hi=>HF w (hi.get (show Has _ (B3 bu L.bm bb)from Zh)) (hi.get (show Has _ (eH L U.m)from Zh))) ?_;refine Z_4 ?_;refine ZN fun b12=>?_
  refine ZM ?_;refine eo ?_;refine ZW ?_ ?_<;>intro hc5
  ·obtain rfl:o=none:=(by cases o with|none=>rfl|some o=>cases hc5);rw[hN rfl,aX,aX]at hRj;obtain⟨rfl,rfl,rfl⟩:=hRj;refine Z_4 ?_;refine Zy (cF Zv0 Zv0 rfl) ?_;refine Z_1 ?_;refine ZL ?_;refine Z_5 ?_;refine ZS (fun w hi=>oO s.next X.Ad X.Ar X.cd X.cr 1 0 w (hi.Jh (show Has _ (slD s X.Ad X.cd)from Zh) (show Has _ (slR s X.Ar X.cr)from Zh) (show s.d.length*4≤_ by omega) (show s.r.length*4≤_ by omega))) ?_;rintro _ _ ⟨_,⟨A3,c3,A4,c4,rfl,rfl⟩,rfl⟩;refine ZM ?_;refine Z_9 ?_;refine bQ (row b10 ((s.next.Iv 1 0).cells (.slice A3 s.d.length c3) (.slice A4 s.r.length c4)) 38::guF bu bb L D (s.next.Iv 1 0) ⟨A3,c3,A4,c4⟩ Y U d) Zj ?_;refine kk (cs':=(guF bu bb L D (s.next.Iv 1 0) ⟨A3,c3,A4,c4⟩ Y U d)) (.inl rfl) Zu rfl rfl Zh Zrf Zrf ?_;exact⟨⟨A3,c3,A4,c4⟩,Y,rfl,rfl⟩
  obtain⟨⟨⟨op,nn⟩,z⟩,rfl⟩:∃q,o=some q:=(by cases o with|none=>cases hc5|some o=>exact⟨o,rfl⟩);obtain⟨hnn,hz1,hz5, -⟩:=hrn op nn z rfl;have HD:=do_ok bu bb L D Y s X.Ad X.Ar X.cd X.cr op nn U d hG.wf hnn hG.u.t hG.dv.wf (by omega);have hg:=sc (op:=op) (nn:=nn) hG.wf hG.right hnn hG.u hG.dv;have hl:=qG (n:=L.n) (op:=op) (nn:=nn) (s:=s) (U:=U) hG.lines;obtain⟨⟨q,U1,d1⟩,hq⟩:=Zgn (vd L.n s op nn U d);rw[hS op nn z q U1 d1 rfl hq]at hRj;rw[hq]at HD hg hl;obtain⟨g1,g2,g3,g4,g5,g6⟩:=hg;dsimp only at g1 g2 g3 g4 g5 g6 hl;have HX:=fun X1 Ap cp w h=>CY op nn q X1 Ap cp pg s.pc g1.pc hG.wf.pc w h
  obtain⟨nx,hnx⟩:=Zgn (kC op q pg s.pc);rw[hnx]at HX hRj;refine Z_8 ?_;refine ZcL (ubF bu bb L D Y U d) (fun w hi hin=>HD w hin (fun w' hk=>hi.I0 Zi (show Has _ (slD s X.Ad X.cd)from Zh) (show Has _ (slR s X.Ar X.cr)from Zh) (by omega) (by omega) hk)) ?_;rintro _ _ ⟨_,⟨X1,Y1,Ap,cp,rfl,rfl⟩,rfl⟩;refine ZN fun b15=>?_
  refine ZM ?_;refine gK ?_;refine dU (cC (vs:=q.s.cells (.slice X1.Ad q.s.d.length X1.cd) (.slice X1.Ar q.s.r.length X1.cr)) Zrf Zrf Zv0) (cL Zh rfl) rfl ?_;refine ZM ?_;refine Z_6 ?_;refine Zy (cu rfl rfl (Zv rfl) (u32_wrap_id _ (by show 0≤(z:Int);omega) (by show(z:Int)<4294967296;omega))) ?_;refine Zy (cF (Zv rfl) (Zv rfl) (show _=(((p+z)%4294967296:Nat):Int)from by show IntKind.u32.wrap ((p:Int)+(z:Int))=_;rw[aE];omega)) ?_;refine Z_9 ?_;refine ZSe (fun w hi=>HX X1 Ap cp w (hi.rd (show Has _ (sl .i64 3 Ap q.Ig.length cp q.Ig)from Zh))) ?_;refine Z_3 ?_;refine ZW ?_ ?_<;>intro hc12
  ·obtain rfl:nx=false:=(by cases nx with|false=>rfl|true=>cases hc12);rw[aa,aX,aX]at hRj;obtain⟨rfl,rfl,rfl⟩:=hRj;refine Z_9 ?_;refine ZM ?_;refine Z_3 ?_;refine bQ (row b10 (q.s.cells (.slice X1.Ad q.s.d.length X1.cd) (.slice X1.Ar q.s.r.length X1.cr)) 38::guF bu bb L D q.s X1 Y1 U1 d1) Zj ?_;refine kk (cs':=(guF bu bb L D q.s X1 Y1 U1 d1)) (.inl rfl) Zu rfl rfl Zh Zrf Zrf ?_;exact⟨X1,Y1,rfl,rfl⟩
  obtain rfl:nx=true:=(by cases nx with|true=>rfl|false=>cases hc12);rw[ac]at hRj;refine Z_4 ?_;refine Zy (cF Zv0 Zv0 Zl) ?_;refine Z_2 ?_;refine cz ((⟨j+1,q.s,X1,(p+z)%4294967296,Y1,U1,d1⟩:Nat×St×iv×Nat×j0×Mmu×Dev)) ?_ ?_ ?_
  ·exact⟨⟨show j+1≤IE by omega,by show(p+z)%4294967296≤4294967295;omega,⟨g1,g2,g4,g5,hl⟩,by show d1.out.length≤o0+(j+1);omega,by show eZ L.n pg (IE - (j+1)) q.s _ U1 d1=_;rw[show IE - (j+1)=k by omega];exact hRj⟩,show IE - (j+1)<IE - j by omega⟩
  ·exact Zwk
  exact Zj
 simp only[aj]at hc3;rw[show IE - j=0 by omega]at hRj;simp only[eZ,aX]at hRj;obtain⟨rfl,rfl,rfl⟩:=hRj;refine Z_8 ?_;refine ZM ?_;refine Z_3 ?_;refine bQ (row b10 (s.cells (.slice X.Ad s.d.length X.cd) (.slice X.Ar s.r.length X.cr)) 38::guF bu bb L D s X Y U d) Zj ?_;refine kk (cs':=(guF bu bb L D s X Y U d)) (.inl rfl) Zu rfl rfl Zh Zrf Zrf ?_;exact⟨X,Y,rfl,rfl⟩
end Go.Proofs.YtomjgmbccamgiaaGreatDoor
