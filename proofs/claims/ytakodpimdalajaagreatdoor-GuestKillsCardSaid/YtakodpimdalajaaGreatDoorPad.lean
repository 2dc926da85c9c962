/- Lemmas. -/
import Derived.Test.YtakodpimdalajaaGreatDoorPaa
import Derived.Test.YtakodpimdalajaaGreatDoorPab
import Derived.Test.YtakodpimdalajaaGreatDoorPac
import Derived.Test.YtakodpimdalajaaGreatDoorProg
import Derived.Lib.EndianBits
set_option linter.unusedSimpArgs false
set_option linter.unusedVariables false
set_option maxRecDepth 100000
set_option maxHeartbeats 4000000
namespace Go.Ink
open Go.RowKit
def lv(l:List Bool):List Value:=l.map Value.bool
theorem jX(l:List Bool):(lv l).length=l.length:=by simp[lv]
theorem AC{l:List Bool}{j:Nat}{b:Bool}(h:l[j]? =some b):(lv l)[j]? =some (.bool b):=by simp[lv,h]
theorem xv(l:List Bool)(j:Nat)(b:Bool):(lv l).set j (.bool b)=lv (l.set j b):=by simp[lv,List.map_set]
theorem fV{k:IntKind}(xs:List Int)(j:Nat)(v:Int):(ints k xs).set j (.int k v)=ints k (xs.set j v):=by simp[ints,List.map_set]
def dk(B ow pr:List Int):List Value:=ints .u8 B++(ints .i64 ow++ints .i64 pr)
structure dI(B ow pr:List Int):Prop where
 b:B.length=16384
 ow:ow.length=256
 pr:pr.length=4
section
variable {B ow pr:List Int}
theorem eX(h:dI B ow pr):(dk B ow pr).length=16644:=by
 simp[dk,cL,h.b,h.ow,h.pr]
theorem pool_B{i:Nat}{v:Int}(h:B[i]? =some v):(dk B ow pr)[i]? =some (.int .u8 v):=by
 have hi:=(ar.1 h).1;unfold dk;rw[bD (by rw[cL];exact hi)];exact cQ h
theorem ph(hl:dI B ow pr){i:Nat}{v:Int}(h:ow[i]? =some v):(dk B ow pr)[16384+i]? =some (.int .i64 v):=by
 have hi:=(ar.1 h).1;unfold dk;rw[bF (by rw[cL,hl.b];omega),cL,hl.b,show 16384+i - 16384=i by omega,bD (by rw[cL];exact hi)];exact cQ h
theorem yg(hl:dI B ow pr){i:Nat}{v:Int}(h:pr[i]? =some v):(dk B ow pr)[16640+i]? =some (.int .i64 v):=by
 unfold dk;rw[bF (by rw[cL,hl.b];omega),cL,hl.b,bF (by rw[cL,hl.ow];omega),cL,hl.ow,show 16640+i - 16384 - 256=i by omega];exact cQ h
theorem DH{i:Nat}(hi:i<B.length)(v:Int):(dk B ow pr).set i (.int .u8 v)=dk (B.set i v) ow pr:=by
 unfold dk;rw[List.set_append_left _ _ (by rw[cL];exact hi),fV]
theorem pf(hl:dI B ow pr){i:Nat}(hi:i<256)(v:Int):(dk B ow pr).set (16384+i) (.int .i64 v)=dk B (ow.set i v) pr:=by
 unfold dk;rw[List.set_append_right _ _ (by rw[cL,hl.b];omega),cL,hl.b,show 16384+i - 16384=i by omega,List.set_append_left _ _ (by rw[cL,hl.ow];exact hi),fV]
theorem pe(hl:dI B ow pr){i:Nat}(v:Int):(dk B ow pr).set (16640+i) (.int .i64 v)=dk B ow (pr.set i v):=by
 unfold dk;rw[List.set_append_right _ _ (by rw[cL,hl.b];omega),cL,hl.b,List.set_append_right _ _ (by rw[cL,hl.ow];omega),cL,hl.ow,show 16640+i - 16384 - 256=i by omega,fV]
def eu(B:List Int)(f:Nat):List Int:=B.take (f*64)++List.replicate 64 0++B.drop (f*64+64)
theorem DG(hl:dI B ow pr){f:Nat}(hf:f<256):(dk B ow pr).take (f*64)++List.replicate 64 (Value.int .u8 0)++(dk B ow pr).drop (f*64+64)=dk (eu B f) ow pr:=by
 unfold dk eu;have h1:f*64≤(ints .u8 B).length:=by rw[cL,hl.b];omega
 have h2:f*64+64≤(ints .u8 B).length:=by rw[cL,hl.b];omega
 rw[List.take_append_of_le_length h1,List.drop_append_of_le_length h2,←ap _ _ (ints .i64 ow++ints .i64 pr)];congr 1;simp[ints,List.map_take,List.map_drop]
theorem uq(hB:B.length=16384){f:Nat}(hf:f<256):(eu B f).length=16384:=by
 simp only[eu,ae,aC,aJ,bn,hB];omega
theorem vG(hB:B.length=16384){f j:Nat}(hf:f<256)(hj:j<64):(eu B f)[f*64+j]? =some 0:=by
 unfold eu;rw[bD (by simp[hB];omega),bF (by simp[hB];omega)];simp only[aC,hB];rw[show f*64+j - min (f*64) 16384=j by omega,List.getElem?_replicate,if_pos hj]
theorem nF(hB:B.length=16384){f i:Nat}(hf:f<256)(hi:i<f*64∨f*64+64≤i):(eu B f)[i]? =B[i]? :=by
 unfold eu;rcases hi with hi|hi
 ·rw[bD (by simp[hB];omega),bD (by simp[hB];omega),List.getElem?_take,if_pos hi]
 rw[bF (by simp[hB];omega),List.getElem?_drop];simp only[ae,aC,aJ,hB];congr 1;omega
end
def fx(ow:List Int)(o:Int)(k:Nat):List Int:=((List.range k).filter (fun f=>ow[f]? ==some o)).map (fun f:Nat=>(f:Int))
theorem rO(ow:List Int)(o:Int)(k:Nat):fx ow o (k+1)=fx ow o k++(bif ow[k]? ==some o then[(k:Int)]else[]):=by
 unfold fx;rw[List.range_succ,List.filter_append,List.map_append];congr 1;cases h:(ow[k]? ==some o)<;>simp[h]
theorem ED(ow:List Int)(o:Int)(k:Nat):(fx ow o k).length≤k:=by
 unfold fx;rw[List.length_map];exact aV (List.length_filter_le _ _) cJ
end Go.Ink
namespace Go.Proofs.YtakodpimdalajaaGreatDoor
open Go.RowKit Go.Ink Go.Proofs.Tryz
attribute [local irreducible] OpY bP
abbrev dj(bp:Nat)(B ow pr:List Int):bJ:=row bp (dk B ow pr) 133
theorem tV(n:Int)(w:World):Ctr prog 74 [.int .i64 n] w [] (fun v cs=>v= .bool (decide (0≤n)&&decide (n<4))∧cs=[]):=by
 refine bL func74 rfl ntmps74 rfl (Inv.start w) ?_;refine vz ?_;refine Zra ?_;exact df
theorem zY(n:Int)(w:World):Ctr prog 155 [.int .i64 n] w [] (fun v cs=>v= .bool (decide (16≤n)&&decide (n<256))∧cs=[]):=by
 refine bL func155 rfl ntmps155 rfl (Inv.start w) ?_;refine vz ?_;refine Zra ?_;exact df
theorem GO(bp:Nat)(B ow pr:List Int)(hl:dI B ow pr)(f:Nat)(o:Int)(h1:16≤f)(h2:f<256)(h3:ow[f]? =some o)(h4:o≠ -1)(w:World)(hp:(dj bp B ow pr).ok w):
  Ctr prog 204 [.pointer (some ⟨bp,0,none⟩),.int .i64 f] w [] (fun v cs=>v= .tuple #[.int .i64 o,.bool true]∧cs=[]):=by
 refine bL func204 rfl ntmps204 rfl (Inv.start w) ?_;refine dS ?_;refine ZSe (fun w hi=>zY f w) ?_;rw[ay (show(16:Int)≤f by omega),ay (show(f:Int)<256 by omega)];refine Z_5 ?_;refine ZFb 16384 ?_;refine Zyn rfl rfl (cV (j:=f) (sz:=1) (r:=16384+f) rfl Zrf (dH rfl) (dH rfl) Wq4 Wq4 Wq1) ?_;refine hH (cq rfl rfl) (bO Zrf (dH rfl)) (cS hp (ph hl h3)) rfl ?_;refine Z_4 ?_;refine dw rfl ((show(_||(o== -1))=false from by rw[beq_eq_false_iff_ne.2 h4];rfl)) ?_;refine Z_7 ?_;refine ZFa 16384 ?_;refine Zy (cV (j:=f) (sz:=1) (r:=16384+f) rfl Zrf (Zv rfl) (Zv rfl) Wq4 Wq4 Wq1) ?_;refine dL (bO Zrf Zv0) (cS hp (ph hl h3)) rfl ?_;refine Z_5 ?_;refine jh ?_;exact df
theorem EC(bp:Nat)(B ow pr:List Int)(hl:dI B ow pr)(f a:Nat)(o:Int)(h1:16≤f)(h2:f<256)(h3:ow[f]? =some o)(h4:o≠ -1)(h5:a<64)(w:World)(hp:(dj bp B ow pr).ok w):
  Ctr prog 147 [.pointer (some ⟨bp,0,none⟩),.int .i64 f,.int .i64 a] w [] (fun v cs=>v= .bool true∧cs=[]):=by
 refine bL func147 rfl ntmps147 rfl (Inv.start w) ?_;refine Z_9 ?_;refine ZSe (fun w hi=>GO bp B ow pr hl f o h1 h2 h3 h4 w (bJ.old hp hi)) ?_;refine lw ?_;refine Z_2 ?_;refine Zra ?_;rw[ay (show(0:Int)≤a by omega),ay (show(a:Int)<64 by omega)];exact df
theorem GN(bp:Nat)(B ow pr:List Int)(hl:dI B ow pr)(f a:Nat)(o b:Int)(h1:16≤f)(h2:f<256)(h3:ow[f]? =some o)(h4:o≠ -1)(h5:a<64)(h6:B[f*64+a]? =some b)(w:World)(hp:(dj bp B ow pr).ok w):
  Ctr prog 103 [.pointer (some ⟨bp,0,none⟩),.int .i64 f,.int .i64 a] w [] (fun v cs=>v= .tuple #[.int .u8 b,.bool true]∧cs=[]):=by
 refine bL func103 rfl ntmps103 rfl (Inv.start w) ?_;refine gE ?_;refine ZSe (fun w hi=>EC bp B ow pr hl f a o h1 h2 h3 h4 h5 w (bJ.old hp hi)) ?_;refine Z_3 ?_;refine gx ?_;refine Z_9 ?_;refine Zy (cV (j:=f) (sz:=64) (r:=f*64) rfl Zrf (Zv rfl) (Zv rfl) Wq4 Wq4 Wq1) ?_;refine Zy (cV (j:=a) (sz:=1) (r:=f*64+a) rfl Zrf (Zv rfl) (Zv rfl) Wq4 Wq4 Wq1) ?_;refine dL (bO Zrf Zv0) (cS hp (pool_B h6)) rfl ?_;refine Z_5 ?_;refine jh ?_;exact df
theorem Dz(bp:Nat)(B ow pr:List Int)(hl:dI B ow pr)(f a:Nat)(o b:Int)(h1:16≤f)(h2:f<256)(h3:ow[f]? =some o)(h4:o≠ -1)(h5:a<64)(w:World)(hi:Inv w (bK [dj bp B ow pr]) [dj bp B ow pr] w):
  Ctr prog 157 [.pointer (some ⟨bp,0,none⟩),.int .i64 f,.int .i64 a,.int .u8 b] w [dj bp B ow pr] (fun v cs=>v= .bool true∧cs=[dj bp (B.set (f*64+a) b) ow pr]):=by
 have hb:=hl.b;refine bL func157 rfl ntmps157 rfl hi ?_;refine fF ?_;refine ZSe (fun w hi=>EC bp B ow pr hl f a o h1 h2 h3 h4 h5 w (hi.get Zh)) ?_;refine Z_3 ?_;refine gx ?_;refine dS ?_;refine Zy (cV (j:=f) (sz:=64) (r:=f*64) rfl Zrf (Zv rfl) (Zv rfl) Wq4 Wq4 Wq1) ?_;refine Zy (cV (j:=a) (sz:=1) (r:=f*64+a) rfl Zrf (Zv rfl) (Zv rfl) Wq4 Wq4 Wq1) ?_;refine dD (eA Zrf rfl rfl rfl Za (by rw[eX hl];omega)) ?_;rintro _ _ ⟨rfl,rfl⟩;rw[DH Wq1];refine Z_8 ?_;refine Zrb ([row _ _ _]) ?_;exact df
theorem yC(bp:Nat)(B ow pr:List Int)(hl:dI B ow pr)(o:Nat)(ho:o<4)(w:World)(hp:(dj bp B ow pr).ok w):
  Ctr prog 73 [.pointer (some ⟨bp,0,none⟩),.int .i64 o] w [] (fun v cs=>∃A c,v= .slice A (fx ow o 256).length c∧cs=[sl .i64 3 A (fx ow o 256).length c (fx ow o 256)]):=by
 refine bL func73 rfl ntmps73 rfl (Inv.start w) ?_;refine gL ?_;refine ZSe (fun w hi=>tV o w) ?_;rw[ay (show(0:Int)≤o by omega),ay (show(o:Int)<4 by omega)];refine Z_3 ?_;refine gx ?_;refine Z_5 ?_;refine dy 3 1 ?_;refine Z_4 ?_;refine cw (fun s:Nat×Option Addr×Nat=>[(0,.pointer (some ⟨bp,0,none⟩)),(1,.int .i64 o),(5,.slice s.2.1 (fx ow o s.1).length s.2.2),(11,.int .i64 s.1)]) (fun s=>[sl .i64 3 s.2.1 (fx ow o s.1).length s.2.2 (fx ow o s.1)]) (fun s=>s.1≤256) (fun s=>256 - s.1) ((0,none,0)) ?_ ?_ ?_ ?_
 ·exact au _
 ·exact Zwk
 ·exact Zu
 rintro⟨k,A1,c1⟩ hk;simp only at hk;dsimp only;refine Z_6 ?_;refine ZW ?_ ?_<;>intro hc5
 ·simp only[ak]at hc5;have hkl:k<ow.length:=by(rw[hl.ow];omega)
  have hok:ow[k]? =some (ow[k]'hkl):=ai hkl;have hle:=ED ow o k;refine p6 ?_;refine ZFa 16384 ?_;refine Zy (cV (j:=k) (sz:=1) (r:=16384+k) rfl Zrf (Zv rfl) (Zv rfl) Wq4 Wq4 Wq1) ?_;refine dL (bO Zrf Zv0) (cS hp (ph hl hok)) rfl ?_;refine Z_4 ?_;refine ZW ?_ ?_<;>intro hc7
  ·have he:fx ow o (k+1)=fx ow o k++[(k:Int)]:=by(rw[rO,hok];have h2:ow[k]'hkl=(o:Int):=(by simpa using hc7);rw[h2];simp)
   refine Z_3 ?_;refine ku ?_;rintro _ _ ⟨b24,rfl,rfl⟩;refine fb (cC (e:=3) (sz:=1) (bytes:=8) rfl rfl Za rfl rfl (fun w hi=>hi.rd Zh) (jp rfl) g9 Wq1) rfl ?_;rintro _ _ ⟨A2,c2,rfl,rfl⟩;rw[show(fx ow o k).length+1=(fx ow o (k+1)).length by(rw[he];simp),show ints .i64 (fx ow o k)++[Value.int .i64 (k:Int)]=ints .i64 (fx ow o (k+1)) by(rw[he];exact cj _ [_])];refine Z_5 ?_;refine Wq8 ?_;refine dM ((k+1,A2,c2)) ?_ ?_ ?_
   ·exact⟨by show k+1≤256;omega,by show 256 - (k+1)<256 - k;omega⟩
   ·exact Zwk
   exact Zu
  have he:fx ow o (k+1)=fx ow o k:=by(rw[rO,hok,show(some (ow[k]'hkl)==some (o:Int))=false from hc7];simp)
  rw[←he];refine Z_4 ?_;refine Wq8 ?_;refine dM ((k+1,A1,c1)) ?_ ?_ ?_
  ·exact⟨by show k+1≤256;omega,by show 256 - (k+1)<256 - k;omega⟩
  ·exact Zwk
  exact Zu
 simp only[ah]at hc5;obtain rfl:k=256:=by omega
 refine gE ?_;refine Zrb ([slv _ _ _ _ _ _]) ?_;exact⟨_,_,rfl,rfl⟩
theorem take_ok(bp:Nat)(B ow pr:List Int)(hl:dI B ow pr)(o:Nat)(ho:o<4)(n:Int)(hn:pr[o]? =some n)(hlt:((fx ow o 256).length:Int)<n)(f0:Nat)(h16:16≤f0)(h256:f0<256)(hf0:ow[f0]? =some (-1))(w:World)(hi:Inv w (bK [dj bp B ow pr]) [dj bp B ow pr] w):
  Ctr prog 207 [.pointer (some ⟨bp,0,none⟩),.int .i64 o] w [dj bp B ow pr] (fun v cs=>∃f:Nat,16≤f∧f<256∧ow[f]? =some (-1)∧v= .tuple #[.int .i64 f,.int .i64 0]∧cs=[dj bp (eu B f) (ow.set f o) pr]):=by
 have hb:=hl.b;have how:=hl.ow;refine bL func207 rfl ntmps207 rfl hi ?_;refine fF ?_;refine ZSe (fun w hi=>tV o w) ?_;rw[ay (show(0:Int)≤o by omega),ay (show(o:Int)<4 by omega)];refine Z_4 ?_;refine gx ?_;refine Zs (bR ⟨fun j=>List.elem j [],[]⟩ Zk ?_);refine gn ?_;refine ZE 4 ?_;refine ZE 5 ?_;refine ZE 6 ?_;refine ZFe 7 16640 ?_;refine cD 8 rfl Zk Zk Zk (cV (j:=o) (sz:=1) (r:=16640+o) rfl Zrf (Zv rfl) (Zv rfl) (fun _=>by omega) (fun _=>by omega) (by omega)) rfl ?_;refine dm 9 rfl Zk Zk Zk Zk (bO Zrf Zv0) (cB Zh (yg hl hn)) rfl ?_;refine ce 2 Zk ?_;refine ZT (fun w hi=>yC bp B ow pr hl o ho w (hi.get Zh)) ?_;rintro _ _ ⟨_,⟨A1,c1,rfl,rfl⟩,rfl⟩;refine ZE 3 ?_;refine ZE 10 ?_;refine ZE 11 ?_;refine dr ?_;refine Zt (dw rfl ((az (by omega))) ?_);refine dS ?_;refine cw (fun k:Nat=>[(0,.pointer (some ⟨bp,0,none⟩)),(1,.int .i64 o),(6,.int .i64 (k:Int))]) (fun _=>[dj bp B ow pr]) (fun k=>16≤k∧k≤f0) (fun k=>f0 - k) (16) ?_ ?_ ?_ ?_
 ·exact⟨by omega,h16⟩
 ·exact Zwk
 ·exact Zu
 rintro k ⟨hk1,hk2⟩;refine Z_7 ?_;refine ZW ?_ ?_<;>intro hc6
 ·have hkl:k<ow.length:=by omega
  have hok:ow[k]? =some (ow[k]'hkl):=ai hkl;refine Z_9 ?_;refine ZFa 16384 ?_;refine Zy (cV (j:=k) (sz:=1) (r:=16384+k) rfl Zrf (Zv rfl) (Zv rfl) (fun _=>by omega) (fun _=>by omega) (by omega)) ?_;refine dL (bO Zrf Zv0) (cB Zh (ph hl hok)) rfl ?_;refine Z_3 ?_;refine ZW ?_ ?_<;>intro hc8
  ·have h2:ow[k]'hkl= -1:=(by simpa using hc8);rw[h2]at hok;refine Z_6 ?_;refine ZFa 16384 ?_;refine Zy (cV (j:=k) (sz:=1) (r:=16384+k) rfl Zrf (Zv rfl) (Zv rfl) (fun _=>by omega) (fun _=>by omega) (by omega)) ?_;refine dD (eA Zrf rfl rfl rfl Za (by rw[eX hl];omega)) ?_;rintro _ _ ⟨rfl,rfl⟩;rw[pf hl (show k<256 by omega)];have hl':dI B (ow.set k o) pr:=⟨hl.b,by rw[aG];exact hl.ow,hl.pr⟩;refine Z_6 ?_;refine Zy (ix (vs:=List.replicate 64 (Value.int .u8 0)) Zk (.inr ⟨_,_,_,rfl,fun _=>rfl⟩)) ?_;refine Z_2 ?_;refine Zy (cV (j:=k) (sz:=64) (r:=k*64) rfl Zrf (Zv rfl) (Zv rfl) (fun _=>by omega) (fun _=>by omega) (by omega)) ?_;refine dD (jJ (n:=64) Zrf rfl rfl (fun u hu=>by rw[List.eq_of_mem_replicate hu];rfl) Za (aJ) (by rw[eX hl',aJ];omega)) ?_;rintro _ _ ⟨rfl,rfl⟩;rw[aJ,DG hl' (show k<256 by omega)];refine p6 ?_;refine rc (cs':=[row _ _ _]) (.inl rfl) Zu rfl rfl rfl ?_;exact⟨k,hk1,by omega,hok,rfl,rfl⟩
  have h2:ow[k]'hkl≠ -1:=(by simpa using hc8);have hne:k≠f0:=by(rintro rfl;rw[hok]at hf0;exact h2 (aD hf0))
  refine Z_5 ?_;refine Wq8 ?_;refine dM (k+1) ?_ ?_ ?_
  ·exact⟨⟨by omega,by omega⟩,by omega⟩
  ·exact Zwk
  exact Zu
 exfalso;simp only[ah]at hc6;omega
end Go.Proofs.YtakodpimdalajaaGreatDoor
namespace Go.Ink
open Go.RowKit
theorem uO{α:Type}{n k:Nat}(a b:α)(h:k<n):(List.replicate k a++List.replicate (n - k) b).set k a=List.replicate (k+1) a++List.replicate (n - (k+1)) b:=by
 rw[List.set_append_right _ _ cJ,aJ,Nat.sub_self,show n - k=(n - (k+1))+1 by omega,List.replicate_succ,List.set_cons_zero,List.replicate_succ',ap]
 rfl
theorem uP{α:Type}(n:Nat)(a b:α):List.replicate n a++List.replicate (n - n) b=List.replicate n a:=by simp
theorem qq{α:Type}(n:Nat)(a b:α):List.replicate 0 a++List.replicate (n - 0) b=List.replicate n b:=by simp
theorem kX(k:IntKind)(n:Nat)(a:Int):List.replicate n (Value.int k a)=ints k (List.replicate n a):=by simp[ints]
theorem oe(n:Nat)(a:Bool):List.replicate n (Value.bool a)=lv (List.replicate n a):=by simp[lv]
theorem GI{B ow pr:List Int}(hl:dI B ow pr):((dk B ow pr).drop 16640).take (ints .i64 pr).length=ints .i64 pr:=by
 unfold dk;rw[←ap,List.drop_append,List.drop_eq_nil_of_le (by simp[cL,hl.b,hl.ow]),aP,show 16640 - (ints .u8 B++ints .i64 ow).length=0 by simp[cL,hl.b,hl.ow],List.drop_zero,bA]
def nW(pr:List Int)(k:Nat):Int:=(pr.take k).foldl (fun s x=>s+(if 0>x then 0 else x)) 0
theorem tq{pr:List Int}{k:Nat}(h:k<pr.length):nW pr (k+1)=nW pr k+(if 0>pr[k]'h then 0 else pr[k]'h):=by
 unfold nW;rw[List.take_succ_eq_append_getElem h,List.foldl_append]
 rfl
end Go.Ink
namespace Go.Proofs.YtakodpimdalajaaGreatDoor
open Go.RowKit Go.Ink Go.Proofs.Tryz
attribute [local irreducible] OpY bP
theorem EQ(w:World):Ctr prog 55 [] w [] (fun v cs=>∃bp,v= .pointer (some ⟨bp,0,none⟩)∧cs=[dj bp (List.replicate 16384 0) (List.replicate 256 (-1)) (List.replicate 4 (-1))]):=by
 have hl1:∀k,k≤256→dI (List.replicate 16384 0) (List.replicate k (-1)++List.replicate (256 - k) 0) (List.replicate 4 0):=fun k hk=>⟨aJ,by simp;omega,rfl⟩
 have hl2:∀k,k≤4→dI (List.replicate 16384 0) (List.replicate 256 (-1)) (List.replicate k (-1)++List.replicate (4 - k) 0):=fun k hk=>⟨aJ,aJ,by simp;omega⟩
 refine bL func55 rfl ntmps55 rfl (Inv.start w) ?_;refine Z_7 ?_;refine Zy (ix (vs:=dk (List.replicate 16384 0) (List.replicate 256 0) (List.replicate 4 0)) Zk (.inl ⟨_,rfl,rfl⟩)) ?_;refine ZO fun b5=>?_
 rw[←qq 256 (-1:Int) 0];refine dS ?_;refine cw (fun k:Nat=>[(1,.pointer (some ⟨b5,0,none⟩)),(6,.int .i64 (k:Int))]) (fun k=>[dj b5 (List.replicate 16384 0) (List.replicate k (-1)++List.replicate (256 - k) 0) (List.replicate 4 0)]) (fun k=>k≤256) (fun k=>256 - k) (0) ?_ ?_ ?_ ?_
 ·exact au _
 ·exact Zwk
 ·exact Zu
 rintro k hk;refine Z_6 ?_;refine ZW ?_ ?_<;>intro hc3
 ·simp only[ak]at hc3;refine gL ?_;refine ZFa 16384 ?_;refine Zy (cV (j:=k) (sz:=1) (r:=16384+k) rfl Zrf (Zv rfl) (Zv rfl) Wq4 Wq4 Wq1) ?_;refine dD (eA Zrf rfl rfl rfl Za (by rw[eX (hl1 k hk)];omega)) ?_;rintro _ _ ⟨rfl,rfl⟩;rw[pf (hl1 k hk) Wq1,uO _ _ Wq1];refine Z_4 ?_;refine Wq8 ?_;refine dM (k+1) ?_ ?_ ?_
  ·exact⟨by omega,by omega⟩
  ·exact Zwk
  exact Zu
 simp only[ah]at hc3;obtain rfl:k=256:=by omega
 refine Z_8 ?_;rw[uP,←qq 4 (-1:Int) 0];refine Z_4 ?_;refine cw (fun k:Nat=>[(1,.pointer (some ⟨b5,0,none⟩)),(15,.int .i64 (k:Int))]) (fun k=>[dj b5 (List.replicate 16384 0) (List.replicate 256 (-1)) (List.replicate k (-1)++List.replicate (4 - k) 0)]) (fun k=>k≤4) (fun k=>4 - k) (0) ?_ ?_ ?_ ?_
 ·exact au _
 ·exact Zwk
 ·exact Zu
 rintro k hk;refine Z_6 ?_;refine ZW ?_ ?_<;>intro hc8
 ·simp only[ak]at hc8;refine gL ?_;refine ZFa 16640 ?_;refine Zy (cV (j:=k) (sz:=1) (r:=16640+k) rfl Zrf (Zv rfl) (Zv rfl) Wq4 Wq4 Wq1) ?_;refine dD (eA Zrf rfl rfl rfl Za (by rw[eX (hl2 k hk)];omega)) ?_;rintro _ _ ⟨rfl,rfl⟩;rw[pe (hl2 k hk),uO _ _ Wq1];refine Z_4 ?_;refine Wq8 ?_;refine dM (k+1) ?_ ?_ ?_
  ·exact⟨by omega,by omega⟩
  ·exact Zwk
  exact Zu
 simp only[ah]at hc8;obtain rfl:k=4:=by omega
 refine Z_7 ?_;rw[uP];refine Z_5 ?_;refine Zrb ([row _ _ _]) ?_;exact⟨_,rfl,rfl⟩
theorem BE(bp:Nat)(B ow pr:List Int)(hl:dI B ow pr)(o n:Nat)(ho:o<4)(hn:n≤64)(h1:pr[o]? =some (-1))(hs:(n:Int)+nW pr 4≤240)(hb:∀x,x∈pr→x≤1000)(w:World)(hi:Inv w (bK [dj bp B ow pr]) [dj bp B ow pr] w):
  Ctr prog 117 [.pointer (some ⟨bp,0,none⟩),.int .i64 o,.int .i64 n] w [dj bp B ow pr] (fun v cs=>v= .int .i64 0∧cs=[dj bp B ow (pr.set o n)]):=by
 have hpl:=hl.pr;have hbd:∀k,k≤4→0≤nW pr k∧nW pr k≤1000*(k:Int):=by
  intro k
  induction k with
  |zero=>intro _;exact⟨by simp[nW],by simp[nW]⟩
  |succ k ih=>
   intro hk;have h1:=ih Wq1;have hkl:k<pr.length:=by omega
   have h2:=hb _ (List.getElem_mem hkl);rw[tq hkl];split<;>omega
 refine bL func117 rfl ntmps117 rfl hi ?_;refine dS ?_;refine ZSe (fun w hi=>tV o w) ?_;rw[ay (show(0:Int)≤o by omega),ay (show(o:Int)<4 by omega)];refine gE ?_;refine dw rfl ((by rw[az (show¬(n:Int)<0 by omega),az (show¬(64:Int)<n by omega)];rfl)) ?_;refine Z_5 ?_;refine ZFa 16640 ?_;refine Zy (cV (j:=o) (sz:=1) (r:=16640+o) rfl Zrf (Zv rfl) (Zv rfl) Wq4 Wq4 Wq1) ?_;refine dL (bO Zrf Zv0) (cB Zh (yg hl h1)) rfl ?_;refine Z_4 ?_;refine gx ?_;refine gE ?_;have e0:nW pr 0=0:=rfl;refine Z_2 ?_;refine ZFa 16640 ?_;refine dL (cn (vs:=ints .i64 pr) Zrf (fun w=>by rw[cL,hpl];rfl) (Zv rfl)) (cI (o:=16640) Zh (GI hl)) rfl ?_;refine Z_4 ?_;refine cw (fun k:Nat=>[(0,.pointer (some ⟨bp,0,none⟩)),(1,.int .i64 o),(2,.int .i64 n),(7,.int .i64 (n+nW pr k)),(34,.agg (ints .i64 pr).toArray),(35,.int .i64 (k:Int))]) (fun _=>[dj bp B ow pr]) (fun k=>k≤4) (fun k=>4 - k) (0) ?_ ?_ ?_ ?_
 ·exact au _
 ·exact Zwk
 ·exact Zu
 rintro k hk;refine Z_6 ?_;refine ZW ?_ ?_<;>intro hc7
 ·simp only[ak]at hc7;have hkl:k<pr.length:=by omega
  have hbk:=hbd k hk;have hbk2:=hb _ (List.getElem_mem hkl);refine Z_6 ?_;refine Zy (yV (j:=k) rfl Zrf Zrf (Zv rfl) (Zv rfl) Wq4 Wq4 (fun _=>mR hkl)) ?_;refine Z_6 ?_;refine Zy (vH Zv0 Zv0 rfl) ?_;refine dL (cX (pY rfl) (pY rfl) (show IntKind.i64.wrap _=n+nW pr (k+1) by rw[tq hkl];refine(IntWalk.i64_in _ ⟨?_,?_⟩).trans Wq1<;>split<;>omega)) (fun _ _=>trivial) rfl ?_;refine Z_5 ?_;refine Wq8 ?_;refine dM (k+1) ?_ ?_ ?_
  ·exact⟨by omega,by omega⟩
  ·exact Zwk
  exact Zu
 simp only[ah]at hc7;obtain rfl:k=4:=by omega
 refine gE ?_;refine dw rfl ((az Wq1)) ?_;refine Z_8 ?_;refine ZFa 16640 ?_;refine Zy (cV (j:=o) (sz:=1) (r:=16640+o) rfl Zrf (Zv rfl) (Zv rfl) Wq4 Wq4 Wq1) ?_;refine dD (eA Zrf rfl rfl rfl Za (by rw[eX hl];omega)) ?_;rintro _ _ ⟨rfl,rfl⟩;rw[pe hl];refine Z_8 ?_;refine Zrb ([row _ _ _]) ?_;exact df
abbrev iD(bt bp:Nat)(o:Nat)(bf bg n:Nat):bJ:=row bt [.pointer (some ⟨bp,0,none⟩),.int .i64 o,.slice (some ⟨bf,0,none⟩) n n,.slice (some ⟨bg,0,none⟩) n n] 219
abbrev frC(bf n:Nat)(fr:List Int):bJ:=sl .i64 3 (some ⟨bf,0,none⟩) n n fr
abbrev gdC(bg n:Nat)(gd:List Bool):bJ:=slv 4 1 (some ⟨bg,0,none⟩) n n (lv gd)
theorem nnew_ok(bp:Nat)(B ow pr:List Int)(hl:dI B ow pr)(o n:Nat)(ho:o<4)(hn0:1≤n)(hn:n≤64)(h1:pr[o]? =some (-1))(hs:(n:Int)+nW pr 4≤240)(hb:∀x,x∈pr→x≤1000)(w:World)(hi:Inv w (bK [dj bp B ow pr]) [dj bp B ow pr] w):
  Ctr prog 76 [.pointer (some ⟨bp,0,none⟩),.int .i64 o,.int .i64 n] w [dj bp B ow pr] (fun v cs=>∃bt bf bg,v= .tuple #[.pointer (some ⟨bt,0,none⟩),.int .i64 0]∧cs=[dj bp B ow (pr.set o n),iD bt bp o bf bg n,frC bf n (List.replicate n (-1)),gdC bg n (List.replicate n false)]):=by
 refine bL func76 rfl ntmps76 rfl hi ?_;refine lw ?_;refine Z_9 ?_;refine dw rfl ((by rw[az (show¬(o:Int)<0 by omega),az (show¬(4:Int)≤o by omega),az (show¬(n:Int)<1 by omega),az (show¬(64:Int)<n by omega)];rfl)) ?_;refine Z_8 ?_;refine ZcM ([dj bp B ow pr]) (fun w hi hin=>BE bp B ow pr hl o n ho hn h1 hs hb w hin) ?_;refine Z_9 ?_;refine gx ?_;refine Z_3 ?_;refine bR ⟨fun j=>List.elem j [],[]⟩ Zk ?_;refine gn ?_;refine ZE 2 ?_;refine ZE 4 ?_;refine j4 3 5 Zk ?_ ?_
 ·refine iZ rfl rfl (ju (bytes:=8) (n:=n) rfl rfl rfl rfl rfl rfl rfl Wq1 g9) ZJ rfl ?_;rintro _ _ ⟨b39,rfl,rfl⟩;refine ce 5 Zk ?_;refine iZ rfl rfl (ju (bytes:=1) (n:=n) rfl rfl rfl rfl rfl rfl rfl Wq1 g9) ZJ rfl ?_;rintro _ _ ⟨b41,rfl,rfl⟩;refine ZE 6 ?_;refine ce 7 Zk ?_;refine iZ rfl rfl (sJ rfl rfl) ZJ rfl ?_;rintro _ _ ⟨b43,rfl,rfl⟩;refine ZE 8 ?_;refine dr ?_;refine Z_4 ?_;rw[kX,oe,←qq n (-1:Int) 0];refine jF [dj bp B ow (pr.set o n),iD b43 bp o b39 b41 n,frC b39 n (List.replicate 0 (-1)++List.replicate (n - 0) 0),gdC b41 n (List.replicate n false)] Zj ?_;refine Z_9 ?_;refine cw (fun k:Nat=>[(9,.pointer (some ⟨b43,0,none⟩)),(48,.int .i64 n),(49,.int .i64 (k:Int))]) (fun k=>[dj bp B ow (pr.set o n),iD b43 bp o b39 b41 n,frC b39 n (List.replicate k (-1)++List.replicate (n - k) 0),gdC b41 n (List.replicate n false)]) (fun k=>k≤n) (fun k=>n - k) (0) ?_ ?_ ?_ ?_
  ·exact au _
  ·exact Zwk
  ·exact Zu
  rintro k hk;refine Z_6 ?_;refine ZW ?_ ?_<;>intro hc8
  ·simp only[ak]at hc8;refine p5 ?_;refine Zy (cu (j:=k) (sz:=1) (r:=k) rfl Zrf (Zv rfl) (Zv rfl) Wq4 Wq4 Wq1) ?_;refine dD (fo Zrf rfl rfl rfl Za Wq1) ?_;rintro _ _ ⟨rfl,rfl⟩;rw[fV,uO _ _ Wq1];refine Z_4 ?_;refine Wq8 ?_;refine dM (k+1) ?_ ?_ ?_
   ·exact⟨by omega,by omega⟩
   ·exact Zwk
   exact Zu
  simp only[ah]at hc8;obtain rfl:k=n:=by omega
  rw[uP];refine jA ?_;refine rc (cs':=[row _ _ _,row _ _ _,slv _ _ _ _ _ _,slv _ _ _ _ _ _]) (.inl rfl) Zu rfl rfl rfl ?_;exact⟨_,_,_,rfl,rfl⟩
 refine iZ rfl rfl (ju (bytes:=1) (n:=n) rfl rfl rfl rfl rfl rfl rfl Wq1 g9) ZJ rfl ?_;rintro _ _ ⟨b41,rfl,rfl⟩;refine ce 3 Zk ?_;refine iZ rfl rfl (ju (bytes:=8) (n:=n) rfl rfl rfl rfl rfl rfl rfl Wq1 g9) ZJ rfl ?_;rintro _ _ ⟨b39,rfl,rfl⟩;refine ZE 6 ?_;refine ce 7 Zk ?_;refine iZ rfl rfl (sJ rfl rfl) ZJ rfl ?_;rintro _ _ ⟨b43,rfl,rfl⟩;refine ZE 8 ?_;refine dr ?_;refine Z_4 ?_;rw[kX,oe,←qq n (-1:Int) 0];refine jF [dj bp B ow (pr.set o n),iD b43 bp o b39 b41 n,frC b39 n (List.replicate 0 (-1)++List.replicate (n - 0) 0),gdC b41 n (List.replicate n false)] Zj ?_;refine Z_9 ?_;refine cw (fun k:Nat=>[(9,.pointer (some ⟨b43,0,none⟩)),(48,.int .i64 n),(49,.int .i64 (k:Int))]) (fun k=>[dj bp B ow (pr.set o n),iD b43 bp o b39 b41 n,frC b39 n (List.replicate k (-1)++List.replicate (n - k) 0),gdC b41 n (List.replicate n false)]) (fun k=>k≤n) (fun k=>n - k) (0) ?_ ?_ ?_ ?_
 ·exact au _
 ·exact Zwk
 ·exact Zu
 rintro k hk;refine Z_6 ?_;refine ZW ?_ ?_<;>intro hc8
 ·simp only[ak]at hc8;refine p5 ?_;refine Zy (cu (j:=k) (sz:=1) (r:=k) rfl Zrf (Zv rfl) (Zv rfl) Wq4 Wq4 Wq1) ?_;refine dD (fo Zrf rfl rfl rfl Za Wq1) ?_;rintro _ _ ⟨rfl,rfl⟩;rw[fV,uO _ _ Wq1];refine Z_4 ?_;refine Wq8 ?_;refine dM (k+1) ?_ ?_ ?_
  ·exact⟨by omega,by omega⟩
  ·exact Zwk
  exact Zu
 simp only[ah]at hc8;obtain rfl:k=n:=by omega
 rw[uP];refine jA ?_;refine rc (cs':=[row _ _ _,row _ _ _,slv _ _ _ _ _ _,slv _ _ _ _ _ _]) (.inl rfl) Zu rfl rfl rfl ?_;exact⟨_,_,_,rfl,rfl⟩
end Go.Proofs.YtakodpimdalajaaGreatDoor
namespace Go.Ink
open Go.RowKit
structure fa where
 bp:Nat
 bt:Nat
 bf:Nat
 bg:Nat
 bm:Nat
 o:Nat
 n:Nat
 gw:List Int
 gB:List Int
 gp:List Int
def fa.oth(L:fa)(f:Nat):Bool:=match L.gw[f]? with|some x=>x != -1&&x !=(L.o:Int)|none=>false
structure Mem where
 data:List Int
 Jt:List Bool
structure yT where
 B:List Int
 ow:List Int
 pr:List Int
 fr:List Int
 gd:List Bool
structure eo(L:fa)(M:Mem)(k:yT):Prop where
 pl:dI k.B k.ow k.pr
 o4:L.o<4
 n1:1≤L.n
 n64:L.n≤64
 fr:k.fr.length=L.n
 gd:k.gd.length=L.n
 dl:M.data.length=L.n*64
 tl:M.Jt.length=64
 db:u8s M.data
 JD:∀p,p<L.n→(k.fr[p]? =some (-1)∧∀j,j<64→M.data[p*64+j]? =some 0)∨(∃f:Nat,k.fr[p]? =some (f:Int)∧16≤f∧f<256∧k.ow[f]? =some (L.o:Int)∧∀j,j<64→k.B[f*64+j]? =M.data[p*64+j]?)
 inj:∀p q f:Nat,k.fr[p]? =some (f:Int)→k.fr[q]? =some (f:Int)→p=q
 held:∀f:Nat,f<256→(L.oth f=false∧k.ow[f]? =some (-1))∨(L.oth f=false∧k.ow[f]? =some (L.o:Int)∧∃p:Nat,k.fr[p]? =some (f:Int))∨(L.oth f=true∧k.ow[f]? =L.gw[f]? ∧∀j,j<64→k.B[f*64+j]? =L.gB[f*64+j]?)
 prom:k.pr[L.o]? =some (L.n:Int)
 prs:k.pr=L.gp
 cap:L.n≤((List.range' 16 240).filter (fun f=> !L.oth f)).length
def Mem.put(M:Mem)(a:Nat)(b:Int):Mem:=⟨M.data.set a b,M.Jt.set (a/64) true⟩
def Mem.calm(M:Mem):Mem:=⟨M.data,List.replicate 64 false⟩
theorem lV:∀(n:Nat) (l:List Nat),l.Nodup→(∀x,x∈l→x<n)→l.length≤n
 |0,l,_,h=>by
  cases l with
  |nil=>simp
  |cons x l=>have:=h x cJ;omega
 |n+1,l,hn,h=>by
  by_cases hm:n∈l
  ·have h1:=lV n (l.erase n) (hn.erase n) (fun x hx=>by
    have h2:=(hn.mem_erase_iff).1 hx;have h3:=h x h2.2;have:=h2.1;omega)
   rw[List.length_erase_of_mem hm]at h1;omega
  have h1:=lV n l hn (fun x hx=>by
   have h3:=h x hx;have:x≠n:=fun e=>hm (e▸hx)
   omega)
  omega
section
variable {L:fa} {M:Mem} {k:yT}
theorem Es{l:List Int}{f:Int}(h:f∈l):l[l.idxOf f]? =some f:=by
 have hlt:l.idxOf f<l.length:=List.idxOf_lt_length_of_mem h;rw[ai hlt,List.getElem_idxOf]
theorem wQ{l:List Int}:∀{fs:List Nat},fs.Nodup→(∀f,f∈fs→((f:Nat):Int)∈l)→(fs.map fun f:Nat=>l.idxOf (f:Int)).Nodup
 |[],_,_=>by simp
 |f::fs,hn,h=>by
  simp only[List.map_cons,List.nodup_cons]at hn⊢;refine⟨fun hm=>?_,wQ hn.2 (fun g hg=>h g (by simp[hg]))⟩;obtain⟨g,hg,he⟩:=bh.1 hm;have h1:=Es (h g (by simp[hg]));have h2:=Es (h f cJ);rw[he,h2]at h1;have:f=g:=by have:=aD h1;omega
  exact hn.1 (this▸hg)
theorem IZ{l:List Int}{p:Nat}{v:Int}(h:l[p]? =some v):v∈l:=aI h
theorem eo.few(h:eo L M k){fs:List Nat}(hnd:fs.Nodup)(hmem:∀f,f∈fs→((f:Nat):Int)∈k.fr):fs.length≤L.n∧∀p:Nat,k.fr[p]? =some (-1)→fs.length<L.n:=by
 have h1:=wQ hnd hmem;have h3:∀x,x∈fs.map (fun f:Nat=>k.fr.idxOf (f:Int))→x<L.n:=fun x hx=>by
  obtain⟨f,hf,rfl⟩:=bh.1 hx;have:=List.idxOf_lt_length_of_mem (hmem f hf);rw[h.fr]at this;exact this
 refine⟨by have:=lV L.n _ h1 h3;rw[List.length_map]at this;exact this,fun p hp=>?_⟩;have hpl:p<L.n:=by have:=(ar.1 hp).1;rw[h.fr]at this;exact this
 have h2:=lV L.n (p::fs.map fun f:Nat=>k.fr.idxOf (f:Int)) (List.nodup_cons.2 ⟨fun hm=>by
  obtain⟨f,hf,he⟩:=bh.1 hm;have:=Es (hmem f hf);rw[he,hp]at this;have:=aD this;omega,h1⟩) (fun x hx=>by
  rcases aK.1 hx with rfl|hx
  ·exact hpl
  exact h3 x hx)
 simp only[aj,List.length_map]at h2;omega
theorem eo.KH(h:eo L M k):(fx k.ow L.o 256).length≤L.n∧∀p:Nat,k.fr[p]? =some (-1)→(fx k.ow L.o 256).length<L.n:=by
 unfold fx;rw[List.length_map];refine h.few (List.filter_sublist.nodup List.nodup_range) (fun f hf=>?_);rw[List.mem_filter,List.mem_range]at hf;have e:=eq_of_beq hf.2;rcases h.held f hf.1 with⟨-,h1⟩|⟨-, -,q,hq⟩|⟨h1,h2, -⟩
 ·rw[h1]at e;have:=aD e;omega
 ·exact IZ hq
 rw[fa.oth,←h2,e]at h1;simp at h1
theorem eo.heldLt(h:eo L M k){p:Nat}(hp:k.fr[p]? =some (-1)):(fx k.ow L.o 256).length<L.n:=h.KH.2 p hp
theorem eo.free(h:eo L M k){p:Nat}(hp:k.fr[p]? =some (-1)):∃f,16≤f∧f<256∧k.ow[f]? =some (-1):=by
 apply Classical.byContradiction;intro hno;have h1:=(h.few (fs:=(List.range' 16 240).filter (fun f=> !L.oth f)) (List.filter_sublist.nodup List.nodup_range') (fun f hf=>by
  rw[List.mem_filter,List.mem_range'_1]at hf;rcases h.held f (by omega)with⟨-,h1⟩|⟨-, -,q,hq⟩|⟨h1, -⟩
  ·exact absurd ⟨f,hf.1.1,by omega,h1⟩ hno
  ·exact IZ hq
  rw[h1]at hf;cases hf.2)).2 p hp
 have:=h.cap;omega
theorem eo.at_(h:eo L M k){a:Nat}(ha:a<L.n*64):∃b,M.data[a]? =some b∧0≤b∧b≤255:=by
 have hl:a<M.data.length:=by rw[h.dl];exact ha
 refine⟨M.data[a],ai hl,h.db _ (List.getElem_mem hl)⟩
theorem eo.putF(h:eo L M k){p j f:Nat}{b:Int}(hj:j<64)(hb:0≤b∧b≤255)(hf:k.fr[p]? =some (f:Int)):eo L (M.put (p*64+j) b) {k with B:=k.B.set (f*64+j) b}:=by
 have hpl:p<L.n:=by have:=(ar.1 hf).1;rw[h.fr]at this;exact this
 have hBl:=h.pl.b;have hf256:f<256:=by
  rcases h.JD p hpl with⟨h1,_⟩|⟨f',h1,h2,h3,_⟩
  ·rw[hf]at h1;have:=aD h1;omega
  rw[hf]at h1;have:=aD h1;omega
 refine⟨⟨by rw[aG];exact h.pl.b,h.pl.ow,h.pl.pr⟩,h.o4,h.n1,h.n64,h.fr,h.gd,by show(M.data.set _ _).length=_;rw[aG];exact h.dl,by show(M.Jt.set _ _).length=_;rw[aG];exact h.tl,?_,?_,h.inj,?_,h.prom,h.prs,h.cap⟩
 ·intro x hx;rcases List.mem_or_eq_of_mem_set hx with h1|h1
  ·exact h.db x h1
  rw[h1];exact hb
 ·intro q hq;show(k.fr[q]? =some (-1)∧∀i,i<64→(M.data.set (p*64+j) b)[q*64+i]? =some 0)∨(∃g:Nat,k.fr[q]? =some (g:Int)∧16≤g∧g<256∧k.ow[g]? =some (L.o:Int)∧∀i,i<64→(k.B.set (f*64+j) b)[g*64+i]? =(M.data.set (p*64+j) b)[q*64+i]?);rcases h.JD q hq with⟨h1,h2⟩|⟨g,h1,h2,h3,h4,h5⟩
  ·left;have hne:q≠p:=by rintro rfl;rw[hf]at h1;have:=aD h1;omega
   refine⟨h1,fun i hi=>?_⟩;rw[bo Wq1];exact h2 i hi
  right;refine⟨g,h1,h2,h3,h4,fun i hi=>?_⟩;by_cases hqp:q=p
  ·subst hqp;have hg:g=f:=by rw[hf]at h1;have:=aD h1;omega
   subst hg;rw[List.getElem?_set,List.getElem?_set];by_cases hij:j=i
   ·subst hij;have hdl:=h.dl;rw[if_pos rfl,if_pos rfl,if_pos Wq1,if_pos (by rw[hdl];omega)]
   rw[if_neg Wq1,if_neg Wq1];exact h5 i hi
  have hgf:g≠f:=by
   rintro rfl;exact hqp (h.inj q p g h1 hf)
  rw[bo Wq1,bo Wq1];exact h5 i hi
 intro g hg;show _∨_∨(_∧_∧∀i,i<64→(k.B.set (f*64+j) b)[g*64+i]? =_);rcases h.held g hg with h1|h1|⟨h1,h2,h3⟩
 ·exact .inl h1
 ·exact .inr (.inl h1)
 refine .inr (.inr ⟨h1,h2,fun i hi=>?_⟩);have hgf:g≠f:=by
  rintro rfl;rcases h.JD p hpl with⟨h4,_⟩|⟨f',h4,_,_,h5,_⟩
  ·rw[hf]at h4;have:=aD h4;omega
  rw[hf]at h4;obtain rfl:f'=g:=by have:=aD h4;omega
  rw[fa.oth,←h2,h5]at h1;simp at h1
 rw[bo Wq1];exact h3 i hi
theorem eo.map(h:eo L M k){p f:Nat}(hp:p<L.n)(hf:k.fr[p]? =some (-1))(h16:16≤f)(h256:f<256)(hw:k.ow[f]? =some (-1)):eo L M {k with B:=eu k.B f,ow:=k.ow.set f L.o,fr:=k.fr.set p f}:=by
 have hBl:=h.pl.b;have howl:=h.pl.ow;have hfl:=h.fr;have hnof:∀q:Nat,k.fr[q]? ≠some (f:Int):=fun q hq=>by
  have hql:q<L.n:=by have:=(ar.1 hq).1;rw[h.fr]at this;exact this
  rcases h.JD q hql with⟨h1,_⟩|⟨g,h1,_,_,h4,_⟩
  ·rw[hq]at h1;have:=aD h1;omega
  rw[hq]at h1;have:g=f:=by have:=aD h1;omega
  subst this;rw[hw]at h4;have:=aD h4;omega
 have hz:∀j,j<64→M.data[p*64+j]? =some 0:=by
  rcases h.JD p hp with⟨_,h2⟩|⟨g,h1,_⟩
  ·exact h2
  rw[hf]at h1;have:=aD h1;omega
 refine⟨⟨uq hBl h256,by rw[aG];exact h.pl.ow,h.pl.pr⟩,h.o4,h.n1,h.n64,by show(k.fr.set _ _).length=_;rw[aG];exact h.fr,h.gd,h.dl,h.tl,h.db,?_,?_,?_,h.prom,h.prs,h.cap⟩
 ·intro q hq;show((k.fr.set p (f:Int))[q]? =some (-1)∧∀i,i<64→M.data[q*64+i]? =some 0)∨(∃g:Nat,(k.fr.set p (f:Int))[q]? =some (g:Int)∧16≤g∧g<256∧(k.ow.set f (L.o:Int))[g]? =some (L.o:Int)∧∀i,i<64→(eu k.B f)[g*64+i]? =M.data[q*64+i]?);by_cases hqp:q=p
  ·subst hqp;right;refine⟨f,by rw[List.getElem?_set,if_pos rfl,if_pos Wq1],h16,h256,by rw[List.getElem?_set,if_pos rfl,if_pos Wq1],fun i hi=>?_⟩;rw[vG hBl h256 hi,hz i hi]
  rw[bo Wq1];rcases h.JD q hq with h1|⟨g,h1,h2,h3,h4,h5⟩
  ·exact .inl h1
  right;have hgf:g≠f:=by rintro rfl;exact hnof q h1
  refine⟨g,h1,h2,h3,by rw[bo Wq1];exact h4,fun i hi=>?_⟩;rw[nF hBl h256 Wq1];exact h5 i hi
 ·intro a b g ha hb;show a=b
  change (k.fr.set p (f:Int))[a]? =_ at ha
  change (k.fr.set p (f:Int))[b]? =_ at hb
  by_cases hap:a=p
  ·by_cases hbp:b=p
   ·omega
   subst hap;rw[List.getElem?_set,if_pos rfl,if_pos Wq1]at ha;rw[bo Wq1]at hb;have:f=g:=by have:=aD ha;omega
   subst this;exact absurd hb (hnof b)
  by_cases hbp:b=p
  ·subst hbp;rw[List.getElem?_set,if_pos rfl,if_pos Wq1]at hb;rw[bo Wq1]at ha;have:f=g:=by have:=aD hb;omega
   subst this;exact absurd ha (hnof a)
  rw[bo Wq1]at ha hb;exact h.inj a b g ha hb
 intro g hg;show(_∧(k.ow.set f (L.o:Int))[g]? =some (-1))∨(_∧(k.ow.set f (L.o:Int))[g]? =some (L.o:Int)∧∃q:Nat,(k.fr.set p (f:Int))[q]? =some (g:Int))∨(_∧(k.ow.set f (L.o:Int))[g]? =_∧∀i,i<64→(eu k.B f)[g*64+i]? =_);have hhe:=h.held g hg;by_cases hgf:g=f
 ·subst hgf;right;left;refine⟨?_,by rw[List.getElem?_set,if_pos rfl,if_pos Wq1],p,by rw[List.getElem?_set,if_pos rfl,if_pos Wq1]⟩;rcases hhe with h1|h1|⟨h1,h2, -⟩
  ·exact h1.1
  ·exact h1.1
  rw[fa.oth,←h2,hw]at h1;cases h1
 rw[bo Wq1];rcases hhe with h1|⟨h0,h1,q,hq⟩|⟨h1,h2,h3⟩
 ·exact .inl h1
 ·right;left;refine⟨h0,h1,q,?_⟩;have:q≠p:=by rintro rfl;rw[hf]at hq;have:=aD hq;omega
  rw[bo Wq1];exact hq
 refine .inr (.inr ⟨h1,h2,fun i hi=>?_⟩);rw[nF hBl h256 Wq1];exact h3 i hi
theorem eo.put0(h:eo L M k){p j:Nat}(hj:j<64)(hp:p<L.n)(hf:k.fr[p]? =some (-1)):eo L (M.put (p*64+j) 0) k:=by
 have hz:M.data[p*64+j]? =some 0:=by
  rcases h.JD p hp with⟨_,h2⟩|⟨g,h1,_⟩
  ·exact h2 j hj
  rw[hf]at h1;have:=aD h1;omega
 have e:M.data.set (p*64+j) 0=M.data:=by
  apply List.ext_getElem?;intro i;rw[List.getElem?_set];split
  ·rename_i hi;subst hi;have:=(ar.1 hz).1;rw[if_pos this,hz]
  rfl
 unfold Mem.put;rw[e];exact⟨h.pl,h.o4,h.n1,h.n64,h.fr,h.gd,h.dl,by show(M.Jt.set _ _).length=_;rw[aG];exact h.tl,h.db,h.JD,h.inj,h.held,h.prom,h.prs,h.cap⟩
theorem eo.calm(h:eo L M k):eo L M.calm k:=⟨h.pl,h.o4,h.n1,h.n64,h.fr,h.gd,h.dl,aJ,h.db,h.JD,h.inj,h.held,h.prom,h.prs,h.cap⟩
end
def Mem.new(n:Nat):Mem:=⟨List.replicate (n*64) 0,List.replicate 64 false⟩
theorem eo.new{L:fa}(ho:L.o<4)(h1:1≤L.n)(h64:L.n≤64){pr:List Int}(hl:dI L.gB L.gw pr)(hg:L.gp=pr.set L.o L.n)(hno:∀x,x∈L.gw→x≠(L.o:Int))(hc:L.n≤((List.range' 16 240).filter (fun f=> !L.oth f)).length):
  eo L (Mem.new L.n) ⟨L.gB,L.gw,L.gp,List.replicate L.n (-1),List.replicate L.n false⟩:=by
 refine⟨⟨hl.b,hl.ow,by rw[hg,aG];exact hl.pr⟩,ho,h1,h64,aJ,aJ,aJ,aJ,?_,?_,?_,?_,?_,rfl,hc⟩
 ·intro x hx;have:=List.eq_of_mem_replicate hx;omega
 ·intro p hp;left;refine⟨by rw[List.getElem?_replicate,if_pos hp],fun j hj=>?_⟩;show(List.replicate (L.n*64) (0:Int))[p*64+j]? =_;rw[List.getElem?_replicate,if_pos Wq1]
 ·intro p q f hp
  change (List.replicate L.n (-1:Int))[p]? =_ at hp
  rw[List.getElem?_replicate]at hp;split at hp
  ·have:=aD hp;omega
  cases hp
 ·intro f hf;have hfl:f<L.gw.length:=by rw[hl.ow];exact hf
  have hx:=ai hfl;have hn:=hno _ (List.getElem_mem hfl);unfold fa.oth;rw[hx];by_cases h2:L.gw[f]= -1
  ·left;rw[h2];exact df
  refine .inr (.inr ⟨?_,rfl,fun _ _=>rfl⟩);simp[h2,hn]
 show L.gp[L.o]? =_;rw[hg,List.getElem?_set,if_pos rfl,if_pos (by rw[hl.pr];exact ho)]
theorem H0{L:fa}{n:Nat}(h:n≤((List.range' 16 240).filter (fun f=>L.gw[f]? ==some (-1))).length):n≤((List.range' 16 240).filter (fun f=> !L.oth f)).length:=
 aV h (List.Sublist.length_le (by
  rw[show(List.range' 16 240).filter (fun f=>L.gw[f]? ==some (-1))=((List.range' 16 240).filter (fun f=> !L.oth f)).filter (fun f=>L.gw[f]? ==some (-1)) by
   rw[List.filter_filter];refine List.filter_congr (fun f _=>?_);unfold fa.oth;rcases hx:L.gw[f]? with _|x
   ·rfl
   by_cases e:x= -1<;>simp[e]]
  exact List.filter_sublist))
end Go.Ink
namespace Go.Proofs.YtakodpimdalajaaGreatDoor
open Go.RowKit Go.Ink Go.Proofs.Tryz
attribute [local irreducible] OpY bP
def eY(L:fa)(tu:List Bool):List Value:= .pointer (some ⟨L.bp,0,none⟩):: .pointer (some ⟨L.bt,0,none⟩)::(lv tu++[.bool false])
abbrev ry(L:fa)(tu:List Bool):bJ:=row L.bm (eY L tu) 201
theorem memCells_tu{L:fa}{tu:List Bool}{j:Nat}{b:Bool}(h:tu[j]? =some b):(eY L tu)[2+j]? =some (.bool b):=by
 have hj:=(ar.1 h).1;unfold eY;rw[show 2+j=j+1+1 by omega,List.getElem?_cons_succ,List.getElem?_cons_succ,bD (by rw[jX];exact hj)];exact AC h
theorem rz{L:fa}{tu:List Bool}(h:tu.length=64):(eY L tu)[66]? =some (.bool false):=by
 unfold eY;rw[List.getElem?_cons_succ,List.getElem?_cons_succ,bF (by rw[jX];omega),jX,h]
 rfl
theorem jd{L:fa}{tu:List Bool}(h:tu.length=64):(eY L tu).length=67:=by simp[eY,jX,h]
theorem lW{L:fa}{tu:List Bool}{j:Nat}(hj:j<tu.length)(b:Bool):(eY L tu).set (2+j) (.bool b)=eY L (tu.set j b):=by
 unfold eY;rw[show 2+j=j+1+1 by omega,List.set_cons_succ,List.set_cons_succ,List.set_append_left _ _ (by rw[jX];exact hj),xv]
theorem wF{L:fa}{tu:List Bool}:((eY L tu).drop 2).take (lv tu).length=lv tu:=by
 unfold eY;simp
theorem u5{L:fa}{tu:List Bool}(h:tu.length=64):(eY L tu).take 2++List.replicate 64 (Value.bool false)++(eY L tu).drop (2+64)=eY L (List.replicate 64 false):=by
 unfold eY;have:(lv tu).length=64:=by rw[jX,h]
 rw[oe];simp[this]
def BJ(L:fa)(tu:List Bool)(k:yT):List bJ:=[dj L.bp k.B k.ow k.pr,iD L.bt L.bp L.o L.bf L.bg L.n,frC L.bf L.n k.fr,gdC L.bg L.n k.gd,ry L tu]
abbrev ek(L:fa)(M:Mem):bJ:=exC [L.bp,L.bt,L.bf,L.bg,L.bm] (BJ L M.Jt) Zrf (eo L M)
theorem mZ{L:fa}{M:Mem}{w:World}(h:(ek L M).ok w):∃k,eo L M k∧(dj L.bp k.B k.ow k.pr).ok w∧(iD L.bt L.bp L.o L.bf L.bg L.n).ok w∧(frC L.bf L.n k.fr).ok w∧(ry L M.Jt).ok w:=by
 obtain⟨k,h1,h2⟩:=exC_ok h;exact⟨k,h1,h2 _ (.head _ _),h2 _ (.tail _ (.head _ _)),h2 _ (.tail _ (.tail _ (.head _ _))),h2 _ (.tail _ (.tail _ (.tail _ (.tail _ (.head _ _)))))⟩
theorem qv(bt bp o bf bg n:Nat)(w:World)(h:(iD bt bp o bf bg n).ok w):Ctr prog 112 [.pointer (some ⟨bt,0,none⟩)] w [] (fun v cs=>v= .int .i64 n∧cs=[]):=by
 refine bL func112 rfl ntmps112 rfl (Inv.start w) ?_;refine dS ?_;refine sB ?_;refine Z_5 ?_;refine Zra ?_;exact df
theorem IP(bt bp o bf bg n p:Nat)(w:World)(h:(iD bt bp o bf bg n).ok w):Ctr prog 146 [.pointer (some ⟨bt,0,none⟩),.int .i64 p] w [] (fun v cs=>v= .bool (decide (p<n))∧cs=[]):=by
 refine bL func146 rfl ntmps146 rfl (Inv.start w) ?_;refine gL ?_;refine hH (bZ rfl rfl) (bO Zrf (dH rfl)) (cS (by assumption) rfl) rfl ?_;refine Z_7 ?_;refine Zra ?_;rw[ay (show(0:Int)≤p by omega),show decide ((p:Int)<n)=decide (p<n)from decide_eq_decide.2 Wq1];exact df
def rY(f:Int):Value:=bif f== -1 then .tuple #[.int .i64 0,.bool false]else .tuple #[.int .i64 f,.bool true]
theorem jI(bt bp o bf bg n p:Nat)(fr:List Int)(f:Int)(hp:p<n)(hf:fr[p]? =some f)(w:World)(h:(iD bt bp o bf bg n).ok w)(h2:(frC bf n fr).ok w):
  Ctr prog 102 [.pointer (some ⟨bt,0,none⟩),.int .i64 p] w [] (fun v cs=>v=rY f∧cs=[]):=by
 have hrd:=gX h2;refine bL func102 rfl ntmps102 rfl (Inv.start w) ?_;refine fF ?_;refine ZSe (fun w hi=>IP bt bp o bf bg n p w (bJ.old h hi)) ?_;rw[ay hp];refine Z_5 ?_;refine hH (cq rfl rfl) (bO Zrf (dH rfl)) (cS (by assumption) rfl) rfl ?_;refine ZB ?_;refine Zyn rfl rfl (cU (j:=p) rfl Zrf (dH rfl) (dH rfl) Wq4 Wq4) ?_;refine hH (cq rfl rfl) (bO Zrf (dH rfl)) (eH hrd (cQ hf)) rfl ?_;refine Z_4 ?_;refine ZW ?_ ?_<;>intro hc1
 ·have hc:(f== -1)=true:=hc1;simp only[rY,hc,ac];refine Z_8 ?_;refine jh ?_;exact df
 have hc:(f== -1)=false:=hc1;simp only[rY,hc,aa];refine Z_7 ?_;refine sB ?_;refine ZA ?_;refine Zy (cU (j:=p) rfl Zrf (Zv rfl) (Zv rfl) Wq4 Wq4) ?_;refine dL (bO Zrf Zv0) (eH hrd (cQ hf)) rfl ?_;refine Z_5 ?_;refine jh ?_;exact df
theorem tmap_ok(bt bp o bf bg n p:Nat)(B ow pr fr:List Int)(hl:dI B ow pr)(ho:o<4)(hn:pr[o]? =some (n:Int))(hlt:(fx ow o 256).length<n)(f0:Nat)(h16:16≤f0)(h256:f0<256)(hf0:ow[f0]? =some (-1))(hp:p<n)(hf:fr[p]? =some (-1))(w:World)
  (hi:Inv w (bK [iD bt bp o bf bg n,frC bf n fr,dj bp B ow pr]) [iD bt bp o bf bg n,frC bf n fr,dj bp B ow pr] w):
  Ctr prog 156 [.pointer (some ⟨bt,0,none⟩),.int .i64 p] w [iD bt bp o bf bg n,frC bf n fr,dj bp B ow pr] (fun v cs=>∃f:Nat,16≤f∧f<256∧ow[f]? =some (-1)∧v= .tuple #[.int .i64 f,.int .i64 0]∧cs=[dj bp (eu B f) (ow.set f o) pr,iD bt bp o bf bg n,frC bf n (fr.set p f)]):=by
 refine bL func156 rfl ntmps156 rfl hi ?_;refine fF ?_;refine ZSe (fun w hi=>IP bt bp o bf bg n p w (hi.get Zh)) ?_;rw[ay hp];refine Z_3 ?_;refine gx ?_;refine Z_7 ?_;refine ZSe (fun w hi=>jI bt bp o bf bg n p fr (-1) hp hf w (hi.get Zh) (hi.get Zh)) ?_;refine gE ?_;refine gx ?_;refine Z_3 ?_;refine bR ⟨fun j=>List.elem j [8],[]⟩ Zk ?_;refine gn ?_;refine ZFe 2 0 ?_;refine ZG 3 ?_;refine ZE 4 ?_;refine ZE 5 ?_;refine ZFe 6 1 ?_;refine ZG 7 ?_;refine ce 8 Zk ?_;refine ZcA ([dj bp B ow pr]) (fun w hi hin=>take_ok bp B ow pr hl o ho n hn Wq1 f0 h16 h256 hf0 w hin) ?_;rintro _ _ ⟨_,⟨f,hf1,hf2,hf3,rfl,rfl⟩,rfl⟩;refine ZE 9 ?_;refine ZE 10 ?_;refine ZE 11 ?_;refine ZE 12 ?_;refine ZE 13 ?_;refine dr ?_;refine Z_8 ?_;refine bU rfl (rfl) ?_;refine Z_7 ?_;refine Zy (cu (j:=p) (sz:=1) (r:=p) rfl Zrf (Zv rfl) (Zv rfl) Wq4 Wq4 Wq1) ?_;refine dD (fo Zrf rfl rfl rfl Za Wq1) ?_;rintro _ _ ⟨rfl,rfl⟩;rw[fV];refine fF ?_;refine rc (cs':=[row _ _ _,row _ _ _,slv _ _ _ _ _ _]) (.inl rfl) Zu rfl rfl rfl ?_;exact⟨f,hf1,hf2,hf3,rfl,rfl⟩
end Go.Proofs.YtakodpimdalajaaGreatDoor
namespace Go.Ink
open Go.RowKit
def gB(d:List Int)(a:Nat):Int:=d.getD a 0
theorem EL{d:List Int}{a:Nat}(h:a<d.length):d[a]? =some (gB d a):=by simp[gB,h]
theorem jQ{d:List Int}(h:u8s d)(a:Nat):0≤gB d a∧gB d a≤255:=by
 unfold gB;by_cases hl:a<d.length
 ·rw[aw,ai hl];exact h _ (List.getElem_mem hl)
 rw[aw,bH Wq1];simp
def p7(d:List Int)(a:Nat):Nat→Int
 |0=>0
 |k+1=>p7 d a k*256+gB d (a+(3 - k))
def qH(d:List Int)(a:Nat):Int:=gB d a+256*gB d (a+1)+65536*gB d (a+2)+16777216*gB d (a+3)
theorem Ba(d:List Int)(a:Nat):p7 d a 4=qH d a:=by
 simp[p7,qH];omega
theorem vM{d:List Int}(h:u8s d)(a:Nat):∀k,0≤p7 d a k∧p7 d a k<256^k
 |0=>by simp[p7]
 |k+1=>by
  have h1:=vM h a k;have h2:=jQ h (a+(3 - k));simp only[p7,Int.pow_succ];omega
theorem sX{d:List Int}(h:u8s d)(a:Nat):u32 (qH d a):=by
 have h1:=jQ h a;have h2:=jQ h (a+1);have h3:=jQ h (a+2);have h4:=jQ h (a+3);unfold qH;exact⟨by omega,by omega⟩
theorem A0{d:List Int}(h:u8s d)(a:Nat){k:Nat}(hk:k<4):bits .or .u32 (IntKind.u32.wrap (p7 d a k*2^(min (8:Int).toNat IntKind.u32.bits))) (gB d (a+(3 - k)))=p7 d a (k+1):=by
 have h1:=vM h a k;have h2:=jQ h (a+(3 - k));simp only[p7];generalize p7 d a k=v at h1;have hv:0≤v∧v<16777216:=by
  obtain rfl|rfl|rfl|rfl:k=0∨k=1∨k=2∨k=3:=by omega
  all_goals (simp at h1;omega)
 have e1:(2:Int)^(min (8:Int).toNat IntKind.u32.bits)=256:=rfl;rw[e1,u32_wrap_id _ Wq1 Wq1];exact bits_join .u32 32 Wq5 wraps_u32 8 (v*256) _ Wq1 Wq1 Wq1 Wq1 Wq1 Wq1
def qK(v:Int)(k:Nat):Int:=v/256^k%256
theorem nK(v:Int)(k:Nat):0≤qK v k∧qK v k≤255:=by unfold qK;omega
theorem vL(v:Int){k:Nat}(hk:k<4):IntKind.u8.wrap (v.fdiv (2^(min (IntKind.u32.wrap (8*(k:Int))).toNat IntKind.u32.bits)))=qK v k:=by
 have e:∀n:Nat,v.fdiv (2^n)=v/2^n:=fun n=>Int.fdiv_eq_ediv_of_nonneg v (by exact Int.le_of_lt (Int.pow_pos Wq5))
 rw[e,IntKind.wrap_u8];unfold qK;obtain rfl|rfl|rfl|rfl:k=0∨k=1∨k=2∨k=3:=by omega
 all_goals rfl
def Mem.J9(M:Mem)(a:Nat)(v:Int):Nat→Mem
 |0=>M
 |k+1=>(Mem.J9 M a v k).put (a+k) (qK v k)
def Mem.JV(M:Mem)(a:Nat)(v:Int):Mem:=M.J9 a v 4
def Mem.fill(M:Mem)(a:Nat)(l:List Int):Nat→Mem
 |0=>M
 |k+1=>(Mem.fill M a l k).put (a+k) (gB l k)
end Go.Ink
namespace Go.Proofs.YtakodpimdalajaaGreatDoor
open Go.RowKit Go.Ink Go.Proofs.Tryz
attribute [local irreducible] OpY bP
theorem kU(L:fa)(M:Mem)(w:World)(h:(ek L M).ok w):Ctr prog 64 [.pointer (some ⟨L.bm,0,none⟩)] w [] (fun v cs=>v= .int .u32 (L.n*64:Nat)∧cs=[]):=by
 obtain⟨k,hr,h1,h2,h3,h4⟩:=mZ h;have n64:=hr.n64;refine bL func64 rfl ntmps64 rfl (Inv.start w) ?_;refine dS ?_;refine sB ?_;refine ZSe (fun w hi=>qv L.bt L.bp L.o L.bf L.bg L.n w (bJ.old h2 hi)) ?_;refine Zy (bW rfl rfl Zv0 rfl) ?_;refine Zy (i4 (Zv rfl) (Zv rfl) (show IntKind.u32.wrap ((IntKind.u32.wrap (L.n:Int))*64)=((L.n*64:Nat):Int) by rw[u32_wrap_id (L.n:Int) Wq1 Wq1,u32_wrap_id _ Wq1 Wq1];omega)) ?_;refine Z_4 ?_;refine Zra ?_;exact df
theorem nY(a:Nat)(ha:a≤4294967295)(w:World):Ctr prog 101 [.int .u32 a] w [] (fun v cs=>v= .tuple #[.int .i64 (a/64:Nat),.int .i64 (a%64:Nat)]∧cs=[]):=by
 refine bL func101 rfl ntmps101 rfl (Inv.start w) ?_;refine Z_9 ?_;refine Zy (jD (Zv rfl) (Zv rfl) Wq1 (show _=((a/64:Nat):Int)from by rw[bz Wq1,u32_wrap_id _ Wq1 Wq1];omega)) ?_;refine Zy (bW rfl rfl Zv0 Zl) ?_;refine ZA ?_;refine Zy (gy (Zv rfl) (Zv rfl) Wq1 (show _=((a%64:Nat):Int)from by rw[aF Wq1];omega)) ?_;refine Zy (bW rfl rfl Zv0 Zl) ?_;refine Z_5 ?_;refine jh ?_;exact df
theorem tB(L:fa)(M:Mem)(a n:Nat)(ha:a≤4294967295)(hn:n≤1000)(w:World)(h:(ek L M).ok w):Ctr prog 47 [.pointer (some ⟨L.bm,0,none⟩),.int .u32 a,.int .i64 n] w [] (fun v cs=>v= .bool (decide (a+n≤L.n*64))∧cs=[]):=by
 obtain⟨k,hr,_⟩:=mZ h;have n64:=hr.n64;refine bL func47 rfl ntmps47 rfl (Inv.start w) ?_;refine Z_8 ?_;refine Zy (bW rfl rfl (Zv rfl) sF) ?_;refine ZA ?_;refine Zy (bW rfl rfl (Zv rfl) sF) ?_;refine Zy (cX (Zv rfl) (Zv rfl) (IntWalk.u64_in _ ⟨by omega,by omega⟩)) ?_;refine ZA ?_;refine ZSe (fun w hi=>kU L M w (bJ.old h hi)) ?_;refine Zy (bW rfl rfl (Zv rfl) sF) ?_;refine Z_5 ?_;refine Zra ?_;rw[show decide ((a:Int)+n≤((L.n*64:Nat):Int))=decide (a+n≤L.n*64)from decide_eq_decide.2 Wq1];exact df
theorem nm(f:Nat):rY (f:Int)= .tuple #[.int .i64 f,.bool true]:=by
 unfold rY;rw[show((f:Int)== -1)=false by rw[beq_eq_false_iff_ne];omega]
 rfl
theorem uL(L:fa)(M:Mem)(a:Nat)(ha:a<L.n*64)(w:World)(h:(ek L M).ok w):Ctr prog 48 [.pointer (some ⟨L.bm,0,none⟩),.int .u32 a] w [] (fun v cs=>v= .int .u8 (gB M.data a)∧cs=[]):=by
 obtain⟨k,hr,h1,h2,h3,h4⟩:=mZ h;have n64:=hr.n64;have hp:a/64<L.n:=by omega
 have hj:a%64<64:=by omega
 have hdl:=hr.dl;have hda:M.data[a/64*64+a%64]? =some (gB M.data a):=by rw[show a/64*64+a%64=a by omega];exact EL Wq1
 rcases hr.JD (a/64) hp with⟨f1,f2⟩|⟨f,f1,f2,f3,f4,f5⟩
 ·have hz:gB M.data a=0:=by have:=f2 (a%64) hj;rw[hda]at this;exact aD this
  rw[hz];refine bL func48 rfl ntmps48 rfl (Inv.start w) ?_;refine Z_8 ?_;refine ZSe (fun w hi=>nY a Wq1 w) ?_;refine gE ?_;refine sB ?_;refine ZA ?_;refine ZSe (fun w hi=>jI L.bt L.bp L.o L.bf L.bg L.n (a/64) k.fr (-1) hp f1 w (bJ.old h2 hi) (bJ.old h3 hi)) ?_;refine gL ?_;refine bU rfl (rfl) ?_;refine Z_7 ?_;refine Zra ?_;exact df
 have hb:k.B[f*64+a%64]? =some (gB M.data a):=by rw[f5 _ hj,hda]
 refine bL func48 rfl ntmps48 rfl (Inv.start w) ?_;refine Z_8 ?_;refine ZSe (fun w hi=>nY a Wq1 w) ?_;refine gE ?_;refine sB ?_;refine ZA ?_;refine ZSe (fun w hi=>jI L.bt L.bp L.o L.bf L.bg L.n (a/64) k.fr f hp f1 w (bJ.old h2 hi) (bJ.old h3 hi)) ?_;rw[nm];refine gL ?_;refine gx ?_;refine Z_7 ?_;refine sB ?_;refine Z_2 ?_;refine ZSe (fun w hi=>GN L.bp k.B k.ow k.pr hr.pl f (a%64) L.o _ f2 f3 f4 Wq1 hj hb w (bJ.old h1 hi)) ?_;refine gL ?_;refine Zra ?_;exact df
theorem rput_in(L:fa)(M:Mem)(a:Nat)(ha:a<L.n*64)(b:Int)(hb:0≤b∧b≤255)(w:World)(k:yT)(hr:eo L M k)(hi:Inv w (bK (BJ L M.Jt k)) (BJ L M.Jt k) w):
  Ctr prog 118 [.pointer (some ⟨L.bm,0,none⟩),.int .u32 a,.int .u8 b] w (BJ L M.Jt k) (fun v cs=>v= .bool true∧∃k',eo L (M.put a b) k'∧cs=BJ L (M.put a b).Jt k'):=by
 have n64:=hr.n64;have o4:=hr.o4;have hp:a/64<L.n:=by omega
 have hj:a%64<64:=by omega
 have hdl:=hr.dl;have htl:=hr.tl;have ea:a/64*64+a%64=a:=by omega
 obtain⟨hb0,hb1⟩:=hb;have his:∀w0 S w,Inv w0 S (BJ L M.Jt k) w→(ek L M).ok w:=fun w0 S w hi=>(hi.J2 (rest:=[]) (bs:=[L.bp,L.bt,L.bf,L.bg,L.bm]) (F:=BJ L M.Jt) (hb:=fun _=>rfl) (p:=eo L M) k hr).ok _ (List.mem_cons_self ..)
 rcases hr.JD (a/64) hp with⟨f1,f2⟩|⟨f,f1,f2,f3,f4,f5⟩
 ·by_cases hb0':b=0
  ·subst hb0';have hfin:=hr.put0 hj hp f1;rw[ea]at hfin;refine bL func118 rfl ntmps118 rfl hi ?_;unfold BJ at his⊢;refine dS ?_;refine ZSe (fun w hi=>tB L M a 1 Wq1 Wq1 w (his _ _ w hi)) ?_;rw[ay (show a+1≤L.n*64 by omega)];refine Z_3 ?_;refine gx ?_;refine Z_5 ?_;refine ZSe (fun w hi=>nY a Wq1 w) ?_;refine gL ?_;refine ZSe (fun w hi=>jI L.bt L.bp L.o L.bf L.bg L.n (a/64) k.fr (-1) hp f1 w (hi.get Zh) (hi.get Zh)) ?_;refine AI ?_;refine gx ?_;refine Z_8 ?_;refine Zy (cV (j:=(a/64)) (sz:=1) (r:=2+a/64) rfl Zrf (Zv rfl) (Zv rfl) Wq4 Wq4 Wq1) ?_;refine dD (eA Zrf rfl rfl rfl Za (by rw[jd htl];omega)) ?_;rintro _ _ ⟨rfl,rfl⟩;rw[lW Wq1];refine gL ?_;refine dZ (cq rfl rfl) rfl rfl ?_;refine Zy (y_or (q:=false) (Zv rfl) ⟨_,rfl,fun _ e=>by simp at e⟩) ?_;refine Z_4 ?_;refine Zrb ([row _ _ _,row _ _ _,slv _ _ _ _ _ _,slv _ _ _ _ _ _,row _ _ _]) ?_;exact⟨rfl,k,hfin,rfl⟩
  obtain⟨f0,g1,g2,g3⟩:=hr.free f1;refine bL func118 rfl ntmps118 rfl hi ?_;unfold BJ at his⊢;refine dS ?_;refine ZSe (fun w hi=>tB L M a 1 Wq1 Wq1 w (his _ _ w hi)) ?_;rw[ay (show a+1≤L.n*64 by omega)];refine Z_3 ?_;refine gx ?_;refine Z_5 ?_;refine ZSe (fun w hi=>nY a Wq1 w) ?_;refine gL ?_;refine ZSe (fun w hi=>jI L.bt L.bp L.o L.bf L.bg L.n (a/64) k.fr (-1) hp f1 w (hi.get Zh) (hi.get Zh)) ?_;refine AI ?_;refine bU rfl ((by rw[show(b !=0)=true by simp[hb0']];rfl)) ?_;refine dS ?_;refine ZFa 66 ?_;refine dL (bO Zrf Zv0) (cB (o:=66) Zh (rz htl)) rfl ?_;refine Z_2 ?_;refine gx ?_;refine dS ?_;refine ZcL ([iD L.bt L.bp L.o L.bf L.bg L.n,frC L.bf L.n k.fr,dj L.bp k.B k.ow k.pr]) (fun w hi hin=>tmap_ok L.bt L.bp L.o L.bf L.bg L.n (a/64) k.B k.ow k.pr k.fr hr.pl o4 hr.prom (hr.heldLt f1) f0 g1 g2 g3 hp f1 w hin) ?_;rintro _ _ ⟨_,⟨f,m1,m2,m3,rfl,rfl⟩,rfl⟩;have hmap:=hr.map hp f1 m1 m2 m3;have hfin:=hmap.putF (j:=a%64) (b:=b) (f:=f) hj ⟨hb0,hb1⟩ (show(k.fr.set (a/64) (f:Int))[a/64]? =_ by rw[List.getElem?_set,if_pos rfl,if_pos (by rw[hr.fr];exact hp)]);rw[ea]at hfin;have hpl':=hmap.pl;refine jA ?_;refine gx ?_;refine gE ?_;refine Zy (cV (j:=(a/64)) (sz:=1) (r:=2+a/64) rfl Zrf (Zv rfl) (Zv rfl) Wq4 Wq4 Wq1) ?_;refine dD (eA Zrf rfl rfl rfl Za (by rw[jd htl];omega)) ?_;rintro _ _ ⟨rfl,rfl⟩;rw[lW Wq1];refine gL ?_;refine iA (cq rfl rfl) rfl (eB ([dj L.bp (eu k.B f) (k.ow.set f L.o) k.pr]) rfl (fun _ _=>rfl) Zi (fun w hi hin=>Dz L.bp (eu k.B f) (k.ow.set f L.o) k.pr hpl' f (a%64) L.o b m1 m2 (show(k.ow.set f (L.o:Int))[f]? =some (L.o:Int) by rw[List.getElem?_set,if_pos rfl,if_pos (by rw[hr.pl.ow];exact m2)]) Wq1 hj w hin)) rfl ?_;rintro _ _ ⟨_,⟨rfl,rfl⟩,rfl⟩;refine Z_5 ?_;refine bN [dj L.bp ((eu k.B f).set (f*64+a%64) b) (k.ow.set f L.o) k.pr,iD L.bt L.bp L.o L.bf L.bg L.n,frC L.bf L.n (k.fr.set (a/64) f),gdC L.bg L.n k.gd,ry L (M.Jt.set (a/64) true)] Zj ?_;refine Zrb ([row _ _ _,row _ _ _,slv _ _ _ _ _ _,slv _ _ _ _ _ _,row _ _ _]) ?_;exact⟨rfl,_,hfin,rfl⟩
 have hfin:=hr.putF (j:=a%64) (b:=b) hj ⟨hb0,hb1⟩ f1;rw[ea]at hfin;refine bL func118 rfl ntmps118 rfl hi ?_;unfold BJ at his⊢;refine dS ?_;refine ZSe (fun w hi=>tB L M a 1 Wq1 Wq1 w (his _ _ w hi)) ?_;rw[ay (show a+1≤L.n*64 by omega)];refine Z_3 ?_;refine gx ?_;refine Z_5 ?_;refine ZSe (fun w hi=>nY a Wq1 w) ?_;refine gL ?_;refine ZSe (fun w hi=>jI L.bt L.bp L.o L.bf L.bg L.n (a/64) k.fr f hp f1 w (hi.get Zh) (hi.get Zh)) ?_;rw[nm];refine AI ?_;refine gx ?_;refine Z_8 ?_;refine Zy (cV (j:=(a/64)) (sz:=1) (r:=2+a/64) rfl Zrf (Zv rfl) (Zv rfl) Wq4 Wq4 Wq1) ?_;refine dD (eA Zrf rfl rfl rfl Za (by rw[jd htl];omega)) ?_;rintro _ _ ⟨rfl,rfl⟩;rw[lW Wq1];refine gL ?_;refine iA (cq rfl rfl) rfl (eB ([dj L.bp k.B k.ow k.pr]) rfl (fun _ _=>rfl) Zi (fun w hi hin=>Dz L.bp k.B k.ow k.pr hr.pl f (a%64) L.o b f2 f3 f4 Wq1 hj w hin)) rfl ?_;rintro _ _ ⟨_,⟨rfl,rfl⟩,rfl⟩;refine Z_5 ?_;refine bN [dj L.bp (k.B.set (f*64+a%64) b) k.ow k.pr,iD L.bt L.bp L.o L.bf L.bg L.n,frC L.bf L.n k.fr,gdC L.bg L.n k.gd,ry L (M.Jt.set (a/64) true)] Zj ?_;refine Zrb ([row _ _ _,row _ _ _,slv _ _ _ _ _ _,slv _ _ _ _ _ _,row _ _ _]) ?_;exact⟨rfl,_,hfin,rfl⟩
end Go.Proofs.YtakodpimdalajaaGreatDoor
namespace Go.Ink
open Go.RowKit
def cpy(d:List Int)(o n k:Nat):List Int:=(List.range k).map (fun j=>gB d (o+j))++List.replicate (n - k) 0
theorem Aw(d:List Int)(o n:Nat):cpy d o n 0=List.replicate n 0:=by simp[cpy]
theorem Fk(d:List Int)(o:Nat){n k:Nat}(h:k<n):(cpy d o n k).set k (gB d (o+k))=cpy d o n (k+1):=by
 unfold cpy;rw[List.set_append_right _ _ cJ,List.length_map,List.length_range,Nat.sub_self,show n - k=(n - (k+1))+1 by omega,List.replicate_succ,List.set_cons_zero,List.range_succ,List.map_append,ap]
 rfl
theorem Fl{d:List Int}{o n:Nat}(h:o+n≤d.length):cpy d o n n=(d.drop o).take n:=by
 unfold cpy;rw[Nat.sub_self,List.replicate_zero,ax];apply List.ext_getElem?;intro j;rw[aZ,List.getElem?_take,List.getElem?_drop];by_cases hj:j<n
 ·rw[List.getElem?_range hj,if_pos hj,EL Wq1]
  rfl
 rw[bH (by simp;omega),if_neg hj]
 rfl
def ia(tu:List Bool)(k:Nat):List Int:=((List.range k).filter (fun f=>tu.getD f false)).map (fun f:Nat=>(f:Int))
theorem tm(tu:List Bool)(k:Nat):ia tu (k+1)=ia tu k++(bif tu.getD k false then[(k:Int)]else[]):=by
 unfold ia;rw[List.range_succ,List.filter_append,List.map_append];congr 1;cases h:tu.getD k false<;>simp only[List.filter_cons,h,List.filter_nil,if_true,List.map_cons,List.map_nil,ac,aa,Bool.false_eq_true,if_false]
theorem F9(tu:List Bool)(k:Nat):(ia tu k).length≤k:=by
 unfold ia;rw[List.length_map];exact aV (List.length_filter_le _ _) cJ
theorem Ci{l:List Bool}{j:Nat}(h:j<l.length):(lv l)[j]? =some (.bool (l.getD j false)):=by
 apply AC;simp[h]
theorem xd(M:Mem)(l:List Int):∀k,k≤l.length→l.length≤M.data.length→(M.fill 0 l k).data=l.take k++M.data.drop k
 |0,_,_=>by simp[Mem.fill]
 |k+1,h,h2=>by
  have ih:=xd M l k Wq1 h2;rw[Mem.fill];show(M.fill 0 l k).data.set (0+k) (gB l k)=_;rw[ih,bl,List.set_append_right _ _ (by rw[aC];omega),aC,show k - min k l.length=0 by omega];have e1:M.data.drop k=M.data[k]'(by omega)::M.data.drop (k+1):=List.drop_eq_getElem_cons Wq1;have e2:l.take (k+1)=l.take k++[gB l k]:=by
   rw[List.take_add_one,EL Wq1]
   rfl
  rw[e1,List.set_cons_zero,e2,ap]
  rfl
def Mem.init(n:Nat)(b:List Int):Mem:=⟨b++List.replicate (n*64 - b.length) 0,List.replicate 64 false⟩
theorem Mem.init_eq{n:Nat}{b:List Int}(h:b.length≤n*64):((Mem.new n).fill 0 b b.length).calm=Mem.init n b:=by
 unfold Mem.calm Mem.init;rw[xd _ _ _ (aN _) (by simp[Mem.new];exact h),bA];simp[Mem.new]
end Go.Ink
namespace Go.Proofs.YtakodpimdalajaaGreatDoor
open Go.RowKit Go.Ink Go.Proofs.Tryz
attribute [local irreducible] OpY bP
theorem uI(L:fa)(M:Mem)(a:Nat)(ha:a<L.n*64)(b:Int)(hb:0≤b∧b≤255)(w:World)(hi:Inv w (bK [ek L M]) [ek L M] w):
  Ctr prog 118 [.pointer (some ⟨L.bm,0,none⟩),.int .u32 a,.int .u8 b] w [ek L M] (fun v cs=>v= .bool true∧cs=[ek L (M.put a b)]):=
 ctr_E hi fun k hr hi'=>rput_in L M a ha b hb w k hr hi'
theorem ls{L:fa}{M:Mem}{w:World}(h:(ek L M).ok w):1≤L.n∧L.n≤64∧M.data.length=L.n*64∧u8s M.data∧M.Jt.length=64:=by
 obtain⟨k,hr,_⟩:=mZ h;exact⟨hr.n1,hr.n64,hr.dl,hr.db,hr.tl⟩
theorem GB(L:fa)(M:Mem)(a:Nat)(ha:a<L.n*64)(w:World)(h:(ek L M).ok w):Ctr prog 14 [.pointer (some ⟨L.bm,0,none⟩),.int .u32 a] w [] (fun v cs=>v= .tuple #[.int .u8 (gB M.data a),.bool true]∧cs=[]):=by
 obtain⟨n1,n64,_⟩:=ls h;refine bL func14 rfl ntmps14 rfl (Inv.start w) ?_;refine fF ?_;refine ZSe (fun w hi=>tB L M a 1 Wq1 Wq1 w (bJ.old h hi)) ?_;rw[ay (show a+1≤L.n*64 by omega)];refine Z_3 ?_;refine gx ?_;refine Z_6 ?_;refine ZSe (fun w hi=>uL L M a ha w (bJ.old h hi)) ?_;refine Z_5 ?_;refine jh ?_;exact df
def xN(L:fa)(M:Mem)(a:Nat):Value:=bif decide (a+4≤L.n*64)then .tuple #[.int .u32 (qH M.data a),.bool true]else .tuple #[.int .u32 0,.bool false]
theorem uG(L:fa)(M:Mem)(a:Nat)(ha:a≤4294967295)(w:World)(h:(ek L M).ok w):Ctr prog 247 [.pointer (some ⟨L.bm,0,none⟩),.int .u32 a] w [] (fun v cs=>v=xN L M a∧cs=[]):=by
 obtain⟨n1,n64,hdl,hdb,htl⟩:=ls h;refine bL func247 rfl ntmps247 rfl (Inv.start w) ?_;refine fF ?_;refine ZSe (fun w hi=>tB L M a 4 ha Wq1 w (bJ.old h hi)) ?_;refine Z_3 ?_;refine ZW ?_ ?_<;>intro hc1
 ·have hc:decide (a+4≤L.n*64)=false:=by simpa using hc1
  refine Z_8 ?_;refine jh ?_;unfold xN;rw[hc];exact df
 have hc:decide (a+4≤L.n*64)=true:=by simpa using hc1
 have hle:a+4≤L.n*64:=of_decide_eq_true hc;refine gL ?_;refine cw (fun i:Nat=>[(0,.pointer (some ⟨L.bm,0,none⟩)),(1,.int .u32 a),(6,.int .u32 (p7 M.data a i)),(7,.int .u32 (4 - (i:Int)))]) (fun _=>[]) (fun i=>i≤4) (fun i=>4 - i) (0) ?_ ?_ ?_ ?_
 ·exact au _
 ·exact Zwk
 ·exact Zu
 rintro i hik;refine Z_7 ?_;refine ZW ?_ ?_<;>intro hc5
 ·simp only[ak]at hc5;have hi4:i<4:=by omega
  have ha3:a+(3 - i)<L.n*64:=by omega
  refine Z_6 ?_;refine Zy (ux (Zv rfl) (Zv rfl) Wq1 rfl) ?_;refine Z_3 ?_;refine Zy (cX (Zv rfl) (Zv rfl) (u32_wrap_id _ Wq1 Wq1)) ?_;refine Zy (dY (Zv rfl) (Zv rfl) (show IntKind.u32.wrap ((a:Int)+(4 - (i:Int)) - 1)=((a+(3 - i):Nat):Int) by rw[u32_wrap_id _ Wq1 Wq1];omega)) ?_;refine ZSe (fun w hi=>uL L M (a+(3 - i)) ha3 w (bJ.old h hi)) ?_;have hg:=jQ hdb (a+(3 - i));refine Zy (bW rfl rfl (Zv rfl) (by first|exact IntWalk.u32_in _ ⟨by omega,by omega⟩|exact rfl)) ?_;refine Zy (AN Zv0 Zv0 (A0 hdb a hi4)) ?_;refine Z_6 ?_;refine Zy (dY (Zv rfl) (Zv rfl) (u32_wrap_id _ Wq1 Wq1)) ?_;refine Z_2 ?_;refine dM (i+1) ?_ ?_ ?_
  ·exact⟨by omega,by omega⟩
  ·exact Zwk
  exact Zu
 simp only[ah]at hc5;obtain rfl:i=4:=by omega
 refine jA ?_;refine jh ?_;unfold xN;rw[hc,Ba];exact df
theorem ng(L:fa)(M:Mem)(a:Nat)(v:Int)(ha:a+4≤L.n*64)(hv:u32 v)(w:World)(hi:Inv w (bK [ek L M]) [ek L M] w):
  Ctr prog 212 [.pointer (some ⟨L.bm,0,none⟩),.int .u32 a,.int .u32 v] w [ek L M] (fun v' cs=>v'= .bool true∧cs=[ek L (M.JV a v)]):=by
 obtain⟨n1,n64,hdl,hdb,htl⟩:=ls (hi.ok _ (List.mem_cons_self ..));refine bL func212 rfl ntmps212 rfl hi ?_;refine dS ?_;refine ZSe (fun w hi=>tB L M a 4 Wq1 Wq1 w (hi.get Zh)) ?_;rw[ay ha];refine Z_3 ?_;refine gx ?_;refine gL ?_;refine cw (fun k:Nat=>[(0,.pointer (some ⟨L.bm,0,none⟩)),(1,.int .u32 a),(2,.int .u32 v),(7,.bool true),(13,.int .u32 (k:Int))]) (fun k=>[ek L (M.J9 a v k)]) (fun k=>k≤4) (fun k=>4 - k) (0) ?_ ?_ ?_ ?_
 ·exact au _
 ·exact Zwk
 ·exact Zu
 rintro k hk;refine Z_6 ?_;refine ZW ?_ ?_<;>intro hc5
 ·simp only[ak]at hc5;have hk4:k<4:=by omega
  refine gL ?_;refine Zy (cX (Zv rfl) (Zv rfl) (show IntKind.u32.wrap ((a:Int)+(k:Int))=((a+k:Nat):Int) by rw[u32_wrap_id _ Wq1 Wq1];omega)) ?_;refine Z_2 ?_;refine Zy (i4 Zv0 Zv0 rfl) ?_;refine Zy (j0 (Zv rfl) (Zv rfl) (by rw[aE];omega) rfl) ?_;refine Zy (bW rfl rfl Zv0 (vL v hk4)) ?_;refine ZcM ([ek L (M.J9 a v k)]) (fun w hi hin=>uI L (M.J9 a v k) (a+k) Wq1 (qK v k) (nK v k) w hin) ?_;refine Z_8 ?_;refine Zy (cX (Zv rfl) (Zv rfl) (u32_wrap_id _ Wq1 Wq1)) ?_;refine Z_2 ?_;refine dM (k+1) ?_ ?_ ?_
  ·exact⟨by omega,by omega⟩
  ·exact Zwk
  exact Zu
 simp only[ah]at hc5;obtain rfl:k=4:=by omega
 refine gE ?_;refine Zrb ([exC _ _ _ _]) ?_;exact df
theorem uK(L:fa)(M:Mem)(p:Nat)(hp:p<L.n)(w:World)(h:(ek L M).ok w):Ctr prog 94 [.pointer (some ⟨L.bm,0,none⟩),.int .i64 p] w [] (fun v cs=>∃b,v= .tuple #[.slice (some ⟨b,0,none⟩) 64 64,.bool true]∧cs=[sl .u8 5 (some ⟨b,0,none⟩) 64 64 ((M.data.drop (p*64)).take 64)]):=by
 obtain⟨n1,n64,hdl,hdb,htl⟩:=ls h;obtain⟨k0,hr0,h1,h2,h3,h4⟩:=mZ h;refine bL func94 rfl ntmps94 rfl (Inv.start w) ?_;refine fF ?_;rw[az (show¬(p:Int)<0 by omega)];refine Z_5 ?_;refine hH (cq rfl rfl) (bO Zrf (dH rfl)) (cS (by assumption) rfl) rfl ?_;refine iA (cq rfl rfl) rfl (eW rfl (fun _ _=>rfl) (fun w hi=>qv L.bt L.bp L.o L.bf L.bg L.n w (bJ.old h2 hi))) rfl ?_;rintro _ _ ⟨_,⟨rfl,rfl⟩,rfl⟩;refine Z_4 ?_;refine dw rfl ((by rw[az (show¬(L.n:Int)≤p by omega)];rfl)) ?_;refine Z_4 ?_;refine fb (ju (bytes:=1) (n:=64) rfl rfl rfl rfl rfl rfl rfl Wq1 g9) rfl ?_;rintro _ _ ⟨b19,rfl,rfl⟩;rw[kX,←Aw M.data (p*64) 64];refine gE ?_;refine cw (fun k:Nat=>[(0,.pointer (some ⟨L.bm,0,none⟩)),(1,.int .i64 p),(6,.slice (some ⟨b19,0,none⟩) 64 64),(21,.int .i64 64),(22,.int .i64 (k:Int))]) (fun k=>[sl .u8 5 (some ⟨b19,0,none⟩) 64 64 (cpy M.data (p*64) 64 k)]) (fun k=>k≤64) (fun k=>64 - k) (0) ?_ ?_ ?_ ?_
 ·exact au _
 ·exact Zwk
 ·exact Zu
 rintro k hk;refine Z_6 ?_;refine ZW ?_ ?_<;>intro hc5
 ·simp only[ak]at hc5;have hpk:p*64+k<L.n*64:=by omega
  refine p6 ?_;refine Zy (i4 Zv0 Zv0 Zl) ?_;refine ZA ?_;refine Zy (cX Zv0 Zv0 Zl) ?_;refine Zy (bW rfl rfl (Zv rfl) (show IntKind.u32.wrap ((p:Int)*64+(k:Int))=((p*64+k:Nat):Int) by rw[u32_wrap_id _ Wq1 Wq1];omega)) ?_;refine ZSe (fun w hi=>uL L M (p*64+k) hpk w (bJ.old h hi)) ?_;refine Zy (cu (j:=k) (sz:=1) (r:=k) rfl Zrf (Zv rfl) (Zv rfl) Wq4 Wq4 Wq1) ?_;refine dD (fo Zrf rfl rfl rfl Za Wq1) ?_;rintro _ _ ⟨rfl,rfl⟩;rw[fV,Fk _ _ Wq1];refine Z_4 ?_;refine Wq8 ?_;refine dM (k+1) ?_ ?_ ?_
  ·exact⟨by omega,by omega⟩
  ·exact Zwk
  exact Zu
 simp only[ah]at hc5;obtain rfl:k=64:=by omega
 rw[Fl Wq1];refine jA ?_;refine rc (cs':=[slv _ _ _ _ _ _]) (.inl rfl) Zu rfl rfl rfl ?_;exact⟨b19,rfl,rfl⟩
theorem x5(L:fa)(M:Mem)(p:Nat)(hp:p<L.n)(A:Option Addr)(c:Nat)(l:List Int)(hl:l.length=64)(hb:u8s l)(w:World)(hi:Inv w (bK [ek L M]) [ek L M] w)(hrd:∀w',dC (bK [ek L M]) w w'→Rd w' .u8 A 64 c l):
  Ctr prog 279 [.pointer (some ⟨L.bm,0,none⟩),.int .i64 p,.slice A 64 c] w [ek L M] (fun v' cs=>v'= .bool true∧cs=[ek L (M.fill (p*64) l 64)]):=by
 obtain⟨n1,n64,hdl,hdb,htl⟩:=ls (hi.ok _ (List.mem_cons_self ..));have hrw:=hrd w (dC.refl _ _);obtain⟨ad,rfl⟩:=hrw.some_ Wq1;have hpg:∀w0 S cs w,Inv w0 S cs w→Has cs (ek L M)→Ctr prog 112 [.pointer (some ⟨L.bt,0,none⟩)] w [] (fun v cs=>v= .int .i64 L.n∧cs=[]):=fun w0 S cs w hi hc=>by
  obtain⟨k0,hr0,h1,h2,h3,h4⟩:=mZ (hi.get hc);exact qv L.bt L.bp L.o L.bf L.bg L.n w h2
 have hcell:∀w,Inv w (bK [ek L M]) [ek L M] w→True:=fun _ _=>trivial
 refine bL func279 rfl ntmps279 rfl hi ?_;refine dS ?_;rw[az (show¬(p:Int)<0 by omega)];refine Z_5 ?_;refine hH (cq rfl rfl) (bO Zrf (dH rfl)) (fun w hi=>by obtain⟨k0,hr0,h1,h2,h3,h4⟩:=mZ (hi.get (show Has _ (ek L M)from Zh));exact cS (cs:=[]) h4 (show(eY L M.Jt)[1]? =some (.pointer (some ⟨L.bt,0,none⟩))from rfl) w (Inv.start w)) rfl ?_;refine iA (cq rfl rfl) rfl (eW rfl (fun _ _=>rfl) (fun w hi=>hpg _ _ _ w hi Zh)) rfl ?_;rintro _ _ ⟨_,⟨rfl,rfl⟩,rfl⟩;refine Z_9 ?_;refine dw rfl ((by rw[az (show¬(L.n:Int)≤p by omega)];rfl)) ?_;refine p5 ?_;refine cw (fun k:Nat=>[(0,.pointer (some ⟨L.bm,0,none⟩)),(1,.int .i64 p),(7,.bool true),(26,.slice (some ad) 64 c),(27,.int .i64 64),(28,.int .i64 (k:Int))]) (fun k=>[ek L (M.fill (p*64) l k)]) (fun k=>k≤64) (fun k=>64 - k) (0) ?_ ?_ ?_ ?_
 ·exact au _
 ·exact Zwk
 ·exact Zu
 rintro k hk;refine Z_6 ?_;refine ZW ?_ ?_<;>intro hc5
 ·simp only[ak]at hc5;have hkl:k<l.length:=by omega
  have hbk:=jQ hb k;refine Z_7 ?_;refine Zy (cU (j:=k) rfl Zrf (Zv rfl) (Zv rfl) Wq4 Wq4) ?_;refine dL (bO Zrf Zv0) (om hrd (cQ (EL hkl))) rfl ?_;refine Z_7 ?_;refine Zy (i4 Zv0 Zv0 Zl) ?_;refine ZA ?_;refine Zy (cX Zv0 Zv0 Zl) ?_;refine Zy (bW rfl rfl (Zv rfl) (show IntKind.u32.wrap ((p:Int)*64+(k:Int))=((p*64+k:Nat):Int) by rw[u32_wrap_id _ Wq1 Wq1];omega)) ?_;refine ZA ?_;refine ZcM ([ek L (M.fill (p*64) l k)]) (fun w hi hin=>uI L (M.fill (p*64) l k) (p*64+k) Wq1 (gB l k) hbk w hin) ?_;refine Z_8 ?_;refine Wq8 ?_;refine dM (k+1) ?_ ?_ ?_
  ·exact⟨by omega,by omega⟩
  ·exact Zwk
  exact Zu
 simp only[ah]at hc5;obtain rfl:k=64:=by omega
 refine gE ?_;refine Zrb ([exC _ _ _ _]) ?_;exact df
theorem Gu(L:fa)(M:Mem)(A:Option Addr)(c:Nat)(l:List Int)(hl:l.length≤L.n*64)(hb:u8s l)(w:World)(hi:Inv w (bK [ek L M]) [ek L M] w)(hrd:∀w',dC (bK [ek L M]) w w'→Rd w' .u8 A l.length c l):
  Ctr prog 78 [.pointer (some ⟨L.bm,0,none⟩),.slice A l.length c] w [ek L M] (fun v' cs=>v'= .int .i64 0∧cs=[ek L (M.fill 0 l l.length)]):=by
 obtain⟨n1,n64,hdl,hdb,htl⟩:=ls (hi.ok _ (List.mem_cons_self ..));have hrw:=hrd w (dC.refl _ _);refine bL func78 rfl ntmps78 rfl hi ?_;refine fF ?_;refine ZSe (fun w hi=>kU L M w (hi.get Zh)) ?_;refine Zy (bW rfl rfl Zv0 Zl) ?_;refine Z_3 ?_;refine dw rfl ((az Wq1)) ?_;refine fF ?_;refine cw (fun k:Nat=>[(0,.pointer (some ⟨L.bm,0,none⟩)),(13,.slice A l.length c),(14,.int .i64 l.length),(15,.int .i64 (k:Int))]) (fun k=>[ek L (M.fill 0 l k)]) (fun k=>k≤l.length) (fun k=>l.length - k) (0) ?_ ?_ ?_ ?_
 ·exact au _
 ·exact Zwk
 ·exact Zu
 rintro k hk;refine Z_6 ?_;refine ZW ?_ ?_<;>intro hc4
 ·simp only[ak]at hc4;have hkl:k<l.length:=by omega
  have hbk:=jQ hb k;obtain⟨ad,rfl⟩:=hrw.some_ Wq1;refine Z_7 ?_;refine Zy (cU (j:=k) rfl Zrf (Zv rfl) (Zv rfl) Wq4 Wq4) ?_;refine dL (bO Zrf Zv0) (om hrd (cQ (EL hkl))) rfl ?_;refine Z_7 ?_;refine Zy (bW rfl rfl (Zv rfl) (show IntKind.u32.wrap (k:Int)=((0+k:Nat):Int) by rw[u32_wrap_id _ Wq1 Wq1];omega)) ?_;refine ZA ?_;refine ZcM ([ek L (M.fill 0 l k)]) (fun w hi hin=>uI L (M.fill 0 l k) (0+k) Wq1 (gB l k) hbk w hin) ?_;refine Z_4 ?_;refine Wq8 ?_;refine dM (k+1) ?_ ?_ ?_
  ·exact⟨by omega,by omega⟩
  ·exact Zwk
  exact Zu
 simp only[ah]at hc4;obtain rfl:k=l.length:=by omega
 refine fF ?_;refine Zrb ([exC _ _ _ _]) ?_;exact df
theorem rall_ok(L:fa)(M:Mem)(w:World)(h:(ek L M).ok w):Ctr prog 67 [.pointer (some ⟨L.bm,0,none⟩)] w [] (fun v cs=>∃b,v= .slice (some ⟨b,0,none⟩) M.data.length M.data.length∧cs=[sl .u8 5 (some ⟨b,0,none⟩) M.data.length M.data.length M.data]):=by
 obtain⟨n1,n64,hdl,hdb,htl⟩:=ls h;rw[hdl];refine bL func67 rfl ntmps67 rfl (Inv.start w) ?_;refine Z_8 ?_;refine ZSe (fun w hi=>kU L M w (bJ.old h hi)) ?_;refine fb (ju (bytes:=1) (n:=L.n*64) rfl rfl rfl rfl rfl rfl rfl Wq1 g9) rfl ?_;rintro _ _ ⟨b7,rfl,rfl⟩;rw[kX,←Aw M.data 0 (L.n*64)];refine gE ?_;refine cw (fun k:Nat=>[(0,.pointer (some ⟨L.bm,0,none⟩)),(3,.slice (some ⟨b7,0,none⟩) (L.n*64) (L.n*64)),(9,.int .i64 (L.n*64:Nat)),(10,.int .i64 (k:Int))]) (fun k=>[sl .u8 5 (some ⟨b7,0,none⟩) (L.n*64) (L.n*64) (cpy M.data 0 (L.n*64) k)]) (fun k=>k≤L.n*64) (fun k=>L.n*64 - k) (0) ?_ ?_ ?_ ?_
 ·exact au _
 ·exact Zwk
 ·exact Zu
 rintro k hk;refine Z_6 ?_;refine ZW ?_ ?_<;>intro hc3
 ·simp only[ak]at hc3;have hpk:0+k<L.n*64:=by omega
  refine p6 ?_;refine Zy (bW rfl rfl (Zv rfl) (show IntKind.u32.wrap (k:Int)=((0+k:Nat):Int) by rw[u32_wrap_id _ Wq1 Wq1];omega)) ?_;refine ZSe (fun w hi=>uL L M (0+k) hpk w (bJ.old h hi)) ?_;refine Zy (cu (j:=k) (sz:=1) (r:=k) rfl Zrf (Zv rfl) (Zv rfl) Wq4 Wq4 Wq1) ?_;refine dD (fo Zrf rfl rfl rfl Za Wq1) ?_;rintro _ _ ⟨rfl,rfl⟩;rw[fV,Fk _ _ Wq1];refine Z_4 ?_;refine Wq8 ?_;refine dM (k+1) ?_ ?_ ?_
  ·exact⟨by omega,by omega⟩
  ·exact Zwk
  exact Zu
 simp only[ah]at hc3;obtain rfl:k=L.n*64:=by omega
 rw[Fl Wq1,List.drop_zero,List.take_of_length_le Wq1];refine gE ?_;refine Zrb ([slv _ _ _ _ _ _]) ?_;exact⟨b7,rfl,rfl⟩
theorem oZ(L:fa)(M:Mem)(w:World)(h:(ek L M).ok w):Ctr prog 59 [.pointer (some ⟨L.bm,0,none⟩)] w [] (fun v cs=>∃A c,v= .slice A (ia M.Jt 64).length c∧cs=[sl .i64 3 A (ia M.Jt 64).length c (ia M.Jt 64)]):=by
 obtain⟨n1,n64,hdl,hdb,htl⟩:=ls h;obtain⟨k0,hr0,h1,h2,h3,h4⟩:=mZ h;refine bL func59 rfl ntmps59 rfl (Inv.start w) ?_;refine p5 ?_;refine dL (cn (vs:=lv M.Jt) Zrf (fun w=>by rw[jX,htl];rfl) (Zv rfl)) (oq (o:=2) h4 wF) rfl ?_;refine dy 3 1 ?_;refine Z_4 ?_;refine cw (fun s:Nat×Option Addr×Nat=>[(0,.pointer (some ⟨L.bm,0,none⟩)),(3,.slice s.2.1 (ia M.Jt s.1).length s.2.2),(9,.agg (lv M.Jt).toArray),(10,.int .i64 (s.1:Int))]) (fun s=>[sl .i64 3 s.2.1 (ia M.Jt s.1).length s.2.2 (ia M.Jt s.1)]) (fun s=>s.1≤64) (fun s=>64 - s.1) ((0,none,0)) ?_ ?_ ?_ ?_
 ·exact au _
 ·exact Zwk
 ·exact Zu
 rintro⟨k,A1,c1⟩ hk;simp only at hk;dsimp only;refine Z_6 ?_;refine ZW ?_ ?_<;>intro hc3
 ·simp only[ak]at hc3;have hle:=F9 M.Jt k;refine Z_7 ?_;refine Zy (yV (j:=k) rfl Zrf Zrf (Zv rfl) (Zv rfl) Wq4 Wq4 (fun _=>Ci (show k<M.Jt.length by omega))) ?_;refine Z_9 ?_;refine ZW ?_ ?_<;>intro hc5
  ·have he:ia M.Jt (k+1)=ia M.Jt k++[(k:Int)]:=by rw[tm,hc5];rfl
   refine Z_3 ?_;refine ku ?_;rintro _ _ ⟨b17,rfl,rfl⟩;refine fb (cC (e:=3) (sz:=1) (bytes:=8) rfl rfl Za rfl rfl (fun w hi=>hi.rd Zh) (jp rfl) g9 Wq1) rfl ?_;rintro _ _ ⟨A2,c2,rfl,rfl⟩;rw[show(ia M.Jt k).length+1=(ia M.Jt (k+1)).length by(rw[he];simp),show ints .i64 (ia M.Jt k)++[Value.int .i64 (k:Int)]=ints .i64 (ia M.Jt (k+1)) by(rw[he];exact cj _ [_])];refine Z_5 ?_;refine Wq8 ?_;refine dM ((k+1,A2,c2)) ?_ ?_ ?_
   ·exact⟨by show k+1≤64;omega,by show 64 - (k+1)<64 - k;omega⟩
   ·exact Zwk
   exact Zu
  have he:ia M.Jt (k+1)=ia M.Jt k:=by(rw[tm,hc5];simp)
  rw[←he];refine Z_4 ?_;refine Wq8 ?_;refine dM ((k+1,A1,c1)) ?_ ?_ ?_
  ·exact⟨by show k+1≤64;omega,by show 64 - (k+1)<64 - k;omega⟩
  ·exact Zwk
  exact Zu
 simp only[ah]at hc3;obtain rfl:k=64:=by omega
 refine gE ?_;refine Zrb ([slv _ _ _ _ _ _]) ?_;exact⟨_,_,rfl,rfl⟩
theorem zu(L:fa)(M:Mem)(w:World)(hi:Inv w (bK [ek L M]) [ek L M] w):Ctr prog 80 [.pointer (some ⟨L.bm,0,none⟩)] w [ek L M] (fun v cs=>v= .tuple #[]∧cs=[ek L M.calm]):=by
 refine ctr_E hi fun k hr hi'=>?_
 have htl:=hr.tl;refine bL func80 rfl ntmps80 rfl hi' ?_;unfold BJ;refine Z_2 ?_;refine Zy (ix (vs:=List.replicate 64 (Value.bool false)) Zk (.inr ⟨_,_,_,rfl,fun _=>rfl⟩)) ?_;refine Z_2 ?_;refine dD (jJ (n:=64) Zrf rfl rfl (fun u hu=>by rw[List.eq_of_mem_replicate hu];rfl) Za (aJ) (by rw[jd htl,aJ];omega)) ?_;rintro _ _ ⟨rfl,rfl⟩;rw[aJ,u5 htl];refine Zn (iF (cs':=[row _ _ _,row _ _ _,slv _ _ _ _ _ _,slv _ _ _ _ _ _,row _ _ _]) (.inr rfl) Zu rfl ?_);exact⟨rfl,k,hr.calm,rfl⟩
theorem rnew_ok(bp bt:Nat)(w:World):Ctr prog 77 [.pointer (some ⟨bp,0,none⟩),.pointer (some ⟨bt,0,none⟩)] w [] (fun v cs=>∃bm,v= .tuple #[.pointer (some ⟨bm,0,none⟩),.int .i64 0]∧cs=[ry ⟨bp,bt,0,0,bm,0,0,[],[],[]⟩ (List.replicate 64 false)]):=by
 refine bL func77 rfl ntmps77 rfl (Inv.start w) ?_;refine vz ?_;refine gx ?_;refine Z_7 ?_;refine ZO fun b15=>?_
 refine Z_5 ?_;refine rc (cs':=[row _ _ _]) (.inl rfl) Zu rfl rfl rfl ?_;exact⟨_,rfl,rfl⟩
end Go.Proofs.YtakodpimdalajaaGreatDoor
namespace Go.Ink
open Go.RowKit
structure TE where
 valid:Bool
 vpn:Int
 pfn:Int
 bits:Int
structure TE.wf(e:TE):Prop where
 vpn:u32 e.vpn
 pfn:u32 e.pfn
 bits:u32 e.bits
def TE.zero:TE:=⟨false,0,0,0⟩
def TE.cells(e:TE):List Value:=[.bool e.valid,.int .u32 e.vpn,.int .u32 e.pfn,.int .u32 e.bits]
def eV(T:List TE):List Value:=T.flatMap TE.cells
structure Tr where
 Jr:Int
 addr:Int
def Tr.none:Tr:=⟨0,0⟩
abbrev Tr.cells(t:Tr):List Value:=[.int .i64 t.Jr,.int .u32 t.addr]
abbrev Tr.v(t:Tr):Value:= .agg t.cells.toArray
abbrev TE.v(e:TE):Value:= .agg e.cells.toArray
theorem ik:∀T:List TE,(eV T).length=T.length*4
 |[]=>rfl
 |e::T=>by
  have:=ik T;simp only[eV]at this;simp[eV,TE.cells,this];omega
theorem j5:∀{T:List TE} {i:Nat} {e:TE},T[i]? =some e→((eV T).drop (i*4)).take 4=e.cells
 |[],i,e,h=>by simp at h
 |x::T,0,e,h=>by
  simp only[List.getElem?_cons_zero,aR]at h;subst h
  rfl
 |x::T,i+1,e,h=>by
  simp only[List.getElem?_cons_succ]at h;have:=j5 h;simp only[eV,List.flatMap_cons]at this⊢;rw[show(i+1)*4=i*4+4 by omega,←List.drop_drop,show(TE.cells x++T.flatMap TE.cells).drop (i*4)=(TE.cells x++T.flatMap TE.cells).drop (i*4)from rfl];rw[List.drop_drop,show i*4+4=(TE.cells x).length+i*4 by simp[TE.cells];omega,←List.drop_drop,List.drop_left];exact this
theorem lG:∀{T:List TE} {i:Nat} (e:TE),i<T.length→(eV T).take (i*4)++e.cells++(eV T).drop (i*4+4)=eV (T.set i e)
 |[],i,e,h=>by simp at h
 |x::T,0,e,_=>by simp[eV,TE.cells]
 |x::T,i+1,e,h=>by
  have ih:=lG (T:=T) (i:=i) e (by simpa using h);simp only[eV,List.set_cons_succ,List.flatMap_cons]at ih⊢;have hl:(TE.cells x).length=4:=rfl;rw[show(i+1)*4=(TE.cells x).length+i*4 by rw[hl];omega,List.take_length_add_append,show(TE.cells x).length+i*4+4=(TE.cells x).length+(i*4+4) by omega,List.drop_length_add_append,ap,ap,←ap _ _ (List.drop _ _),ih]
def iH(b:Int)(Jq:Bool):Int:=bif Jq then b else bits .or .u32 b 16
def asked(kind:Int)(Jq:Bool):Int×Bool:=
 bif kind==1 then(iH 8 Jq,true)else bif kind==2 then(iH 2 Jq,true)else bif kind==3 then(iH 68 Jq,true)else(0,false)
def fault(kind:Int):Int:=bif kind==1 then 7 else bif kind==2 then 8 else bif kind==3 then 9 else 0
def nL(kind:Int)(Jq:Bool):Int:=
 iH (bif kind==1 then bits .or .u32 1 8 else bif kind==2 then bits .or .u32 1 2 else bif kind==3 then bits .or .u32 1 4 else 1) Jq
def xU(T:List TE)(va:Nat):TE:=T.getD (va/64%16) TE.zero
def nl(e:TE)(va:Nat)(a:Int×Bool):Bool:=((!a.2|| !e.valid)||(e.vpn !=((va/64:Nat):Int)))||(bits .and .u32 e.bits a.1 !=a.1)
def pR(pfn:Int)(va:Nat):Int:=IntKind.u32.wrap (IntKind.u32.wrap (pfn*64)+((va%64:Nat):Int))
def p8(T:List TE)(va:Nat)(kind:Int)(Jq:Bool):Int×Bool:=
 bif nl (xU T va) va (asked kind Jq)then(0,false)else(pR (xU T va).pfn va,true)
def C8(T:List TE)(e:TE):List TE:=bif e.valid then T.set (e.vpn.toNat%16) e else T
def sI(T:List TE)(va:Nat):List TE:=bif(xU T va).vpn==((va/64:Nat):Int)then T.set (va/64%16) TE.zero else T
def eE:List TE:=List.replicate 16 TE.zero
def jV(n:Nat)(d:List Int)(a:Nat):Option Int:=bif decide (a+4≤n*64)then some (qH d a)else none
def at1(root va:Nat):Nat:=root/64*64+4*(va/1024%16)
def at2(e:Int)(va:Nat):Nat:=(e/256).toNat*64+4*(va/64%16)
def yw(n:Nat)(d:List Int)(va:Nat)(e:Int):Option (Nat×Int):=
 bif e%2==0 then none else(jV n d (at2 e va)).map fun l=>(at2 e va,l)
def lZ(n:Nat)(d:List Int)(root va:Nat):Option (Nat×Int):=
 bif decide (16384≤va)then none else(jV n d (at1 root va)).bind (yw n d va)
def lookV(r:Option (Nat×Int)):Value:=match r with|some (a,l)=> .tuple #[.int .u32 a,.int .u32 l,.bool true]|none=> .tuple #[.int .u32 0,.int .u32 0,.bool false]
def m4(l:Int)(kind:Int):Int:=bif kind==3 then bits .or .u32 (bits .or .u32 l 32) 64 else bits .or .u32 l 32
def leafE(va:Nat)(l:Int):TE:=⟨true,((va/64:Nat):Int),l/256,bits .and .u32 l 94⟩
def gI(n:Nat)(M:Mem)(root va:Nat)(kind:Int)(Jq:Bool):(TE×Tr)×Mem:=
 bif fault kind==0 then((TE.zero,⟨10,va⟩),M)else
 match lZ n M.data root va with
 |none=>((TE.zero,⟨fault kind,va⟩),M)
 |some (a,l)=>bif bits .and .u32 l (nL kind Jq) !=nL kind Jq then((TE.zero,⟨fault kind,va⟩),M)else
   ((leafE va (m4 l kind),Tr.none),bif m4 l kind !=l then M.JV a (m4 l kind)else M)
structure Mmu where
 m:Mem
 t:List TE
structure Sp where
 Jv:Bool
 Jq:Bool
 root:Nat
abbrev Sp.v(s:Sp):Value:= .agg #[.bool s.Jv,.bool s.Jq,.int .u32 (s.root:Int)]
def cZ(n:Nat)(U:Mmu)(s:Sp)(va:Nat)(kind:Int):(Int×Tr)×Mmu:=
 bif !s.Jv then(((va:Int),Tr.none),U)else
 bif(p8 U.t va kind s.Jq).2 then(((p8 U.t va kind s.Jq).1,Tr.none),U)else
 bif(gI n U.m s.root va kind s.Jq).1.2.Jr !=0 then((0,(gI n U.m s.root va kind s.Jq).1.2),⟨(gI n U.m s.root va kind s.Jq).2,U.t⟩)else
 ((pR (gI n U.m s.root va kind s.Jq).1.1.pfn va,(gI n U.m s.root va kind s.Jq).1.2),⟨(gI n U.m s.root va kind s.Jq).2,C8 U.t (gI n U.m s.root va kind s.Jq).1.1⟩)
def qb(a:Int):Bool:=decide (32768≤a)&&decide (a<33024)
def cM(n:Nat)(U:Mmu)(s:Sp)(va:Nat)(kind:Int):(Int×Tr)×Mmu:=
 bif fault kind==0 then((0,⟨10,va⟩),U)else
 bif(cZ n U s va kind).1.2.Jr !=0 then((0,(cZ n U s va kind).1.2),(cZ n U s va kind).2)else
 bif(decide ((cZ n U s va kind).1.1<((n*64:Nat):Int))||((kind !=1)&&qb (cZ n U s va kind).1.1))then cZ n U s va kind else((0,⟨10,va⟩),(cZ n U s va kind).2)
end Go.Ink
namespace Go.Proofs.YtakodpimdalajaaGreatDoor
open Go.RowKit Go.Ink Go.Proofs.Tryz
attribute [local irreducible] OpY bP
abbrev sH(bb:Nat)(T:List TE):bJ:=row bb (eV T) 222
theorem qt(v:Nat)(w:World):Ctr prog 208 [.int .u32 v] w [] (fun x cs=>x= .int .u32 (v%16:Nat)∧cs=[]):=by
 refine bL func208 rfl ntmps208 rfl (Inv.start w) ?_;refine Z_8 ?_;refine Zy (gy (Zv rfl) (Zv rfl) Wq1 (show _=((v%16:Nat):Int)from by rw[aF Wq1];omega)) ?_;refine Z_4 ?_;refine Zra ?_;exact df
theorem Db(kind:Int)(Jq:Bool)(w:World):Ctr prog 209 [.int .i64 kind,.bool Jq] w [] (fun x cs=>x= .tuple #[.int .u32 (asked kind Jq).1,.bool (asked kind Jq).2]∧cs=[]):=by
 refine bL func209 rfl ntmps209 rfl (Inv.start w) ?_;refine lw ?_;refine Z_4 ?_;refine ZW ?_ ?_<;>intro hc4
 ·refine gE ?_;refine ZW ?_ ?_<;>intro hc10
  ·have hs:Jq=false:=by simpa using hc10
   refine gL ?_;refine jh ?_;refine⟨?_,rfl⟩;simp only[asked,iH, *,ac,aa]
  have hs:Jq=true:=by simpa using hc10
  refine dS ?_;refine jh ?_;refine⟨?_,rfl⟩;simp only[asked,iH, *,ac,aa]
 refine Z_6 ?_;refine ZW ?_ ?_<;>intro hc6
 ·refine gE ?_;refine ZW ?_ ?_<;>intro hc10
  ·have hs:Jq=false:=by simpa using hc10
   refine gL ?_;refine jh ?_;refine⟨?_,rfl⟩;simp only[asked,iH, *,ac,aa]
  have hs:Jq=true:=by simpa using hc10
  refine dS ?_;refine jh ?_;refine⟨?_,rfl⟩;simp only[asked,iH, *,ac,aa]
 refine Z_6 ?_;refine ZW ?_ ?_<;>intro hc8
 ·refine gE ?_;refine ZW ?_ ?_<;>intro hc10
  ·have hs:Jq=false:=by simpa using hc10
   refine gL ?_;refine jh ?_;refine⟨?_,rfl⟩;simp only[asked,iH, *,ac,aa]
  have hs:Jq=true:=by simpa using hc10
  refine dS ?_;refine jh ?_;refine⟨?_,rfl⟩;simp only[asked,iH, *,ac,aa]
 refine Z_9 ?_;refine jh ?_;refine⟨?_,rfl⟩;simp only[asked,iH, *,ac,aa]
theorem C0(w:World):Ctr prog 81 [] w [] (fun x cs=>∃bb,x= .pointer (some ⟨bb,0,none⟩)∧cs=[sH bb eE]):=by
 refine bL func81 rfl ntmps81 rfl (Inv.start w) ?_;refine Z_7 ?_;refine Zy (ix (vs:=eV eE) Zk (.inl ⟨_,rfl,rfl⟩)) ?_;refine ZO fun b2=>?_
 refine Z_4 ?_;refine Zrb ([row _ _ _]) ?_;exact⟨_,rfl,rfl⟩
theorem Gg(bb:Nat)(T:List TE)(hT:T.length=16)(va:Nat)(hva:va≤4294967295)(kind:Int)(Jq:Bool)(w:World)(h:(sH bb T).ok w):Ctr prog 158 [.pointer (some ⟨bb,0,none⟩),.int .u32 va,.int .i64 kind,.bool Jq] w [] (fun x cs=>x= .tuple #[.int .u32 (p8 T va kind Jq).1,.bool (p8 T va kind Jq).2]∧cs=[]):=by
 have hlt:va/64%16<T.length:=by omega
 have he:T[va/64%16]? =some (xU T va):=by simp[xU,hlt]
 obtain⟨e,hee⟩:=Zgn (xU T va);obtain⟨a,ha⟩:=Zgn (asked kind Jq);have hA:=Db kind Jq;unfold p8;rw[hee]at he⊢;rw[ha]at hA⊢;refine bL func158 rfl ntmps158 rfl (Inv.start w) ?_;refine Z_9 ?_;refine Zy (jD (Zv rfl) (Zv rfl) Wq1 (show _=((va/64:Nat):Int)from by rw[bz Wq1,u32_wrap_id _ Wq1 Wq1];omega)) ?_;refine Z_4 ?_;refine bR ⟨fun j=>List.elem j [8],[]⟩ Zk ?_;refine gn ?_;refine ZE 3 ?_;refine ZFe 4 0 ?_;refine j4 2 7 Zk ?_ ?_
 ·refine ZT (fun w hi=>qt (va/64) w) ?_;rintro _ _ ⟨_,⟨rfl,rfl⟩,rfl⟩;refine cD 5 rfl Zk Zk Zk (cV (j:=(va/64%16)) (sz:=4) (r:=(va/64%16)*4) rfl Zrf (Zv rfl) (Zv rfl) Wq4 Wq4 Wq1) rfl ?_;refine dm 6 rfl Zk Zk Zk Zk (cn (vs:=e.cells) Zrf Zrf Zv0) (oq (o:=(va/64%16)*4) h (j5 he)) rfl ?_;refine ce 7 Zk ?_;refine ZP fun b11=>?_
  refine ce 8 Zk ?_;refine ZR ?_;refine dr ?_;refine Z_5 ?_;refine ZSe (fun w hi=>hA w) ?_;refine lw ?_;refine jA ?_;refine ZW ?_ ?_<;>intro hc4
  ·have hc:nl e va a=true:=hc4;refine Z_8 ?_;refine jh ?_;rw[hc];exact df
  have hc:nl e va a=false:=hc4;refine Z_6 ?_;refine Zy (i4 Zv0 Zv0 rfl) ?_;refine ZA ?_;refine Zy (gy (Zv rfl) (Zv rfl) Wq1 (show _=((va%64:Nat):Int)from by rw[aF Wq1];omega)) ?_;refine Zy (cX Zv0 Zv0 rfl) ?_;refine Z_5 ?_;refine jh ?_;rw[hc];exact df
 refine ZP fun b11=>?_
 refine ce 2 Zk ?_;refine ZT (fun w hi=>qt (va/64) w) ?_;rintro _ _ ⟨_,⟨rfl,rfl⟩,rfl⟩;refine cD 5 rfl Zk Zk Zk (cV (j:=(va/64%16)) (sz:=4) (r:=(va/64%16)*4) rfl Zrf (Zv rfl) (Zv rfl) Wq4 Wq4 Wq1) rfl ?_;refine dm 6 rfl Zk Zk Zk Zk (cn (vs:=e.cells) Zrf Zrf Zv0) (oq (o:=(va/64%16)*4) h (j5 he)) rfl ?_;refine ce 8 Zk ?_;refine ZR ?_;refine dr ?_;refine Z_5 ?_;refine ZSe (fun w hi=>hA w) ?_;refine lw ?_;refine jA ?_;refine ZW ?_ ?_<;>intro hc4
 ·have hc:nl e va a=true:=hc4;refine Z_8 ?_;refine jh ?_;rw[hc];exact df
 have hc:nl e va a=false:=hc4;refine Z_6 ?_;refine Zy (i4 Zv0 Zv0 rfl) ?_;refine ZA ?_;refine Zy (gy (Zv rfl) (Zv rfl) Wq1 (show _=((va%64:Nat):Int)from by rw[aF Wq1];omega)) ?_;refine Zy (cX Zv0 Zv0 rfl) ?_;refine Z_5 ?_;refine jh ?_;rw[hc];exact df
theorem Gh(bb:Nat)(T:List TE)(hT:T.length=16)(e:TE)(he:e.wf)(w:World)(hi:Inv w (bK [sH bb T]) [sH bb T] w):Ctr prog 160 [.pointer (some ⟨bb,0,none⟩),e.v] w [sH bb T] (fun x cs=>x= .bool e.valid∧cs=[sH bb (C8 T e)]):=by
 obtain⟨v0,v1⟩:=he.vpn;obtain⟨vp,hvp⟩:=aq v0;obtain⟨ev,evpn,epfn,eb⟩:=e;simp only at hvp v0 v1;subst hvp;refine bL func160 rfl ntmps160 rfl hi ?_;refine Z_2 ?_;refine ZO fun b3=>?_;refine dS ?_;refine ZW ?_ ?_<;>intro hc1
 ·have hv:ev=true:=hc1;subst hv;refine bR ⟨fun j=>List.elem j [8],[]⟩ Zk ?_;refine ZE 0 ?_;refine ZFe 1 1 ?_;refine ZG 2 ?_;refine ZI 4 ?_;refine ZE 5 ?_;refine ZFe 6 0 ?_;refine ce 3 Zk ?_;refine ZT (fun w hi=>qt vp w) ?_;rintro _ _ ⟨_,⟨rfl,rfl⟩,rfl⟩;refine cD 7 rfl Zk Zk Zk (cV (j:=(vp%16)) (sz:=4) (r:=(vp%16)*4) rfl Zrf (Zv rfl) (Zv rfl) (fun _=>by omega) (fun _=>by omega) (by omega)) rfl ?_;refine ce 8 Zk ?_;refine dp rfl rfl (jJ (n:=4) (vs:=TE.cells ⟨true,(vp:Int),epfn,eb⟩) Zrf rfl rfl (jp rfl) Za rfl (by rw[ik];simp only[TE.cells,aj,ao];omega)) ZJ ?_;rintro _ _ ⟨rfl,rfl⟩;rw[show(TE.cells ⟨true,(vp:Int),epfn,eb⟩).length=4 from rfl,lG (T:=T) (i:=vp%16) ⟨true,(vp:Int),epfn,eb⟩ (by omega)];refine dr ?_;refine Z_9 ?_;refine Zrb ([row _ _ _]) ?_;exact df
 have hv:ev=false:=hc1;subst hv;refine dS ?_;refine Zrb ([row _ _ _]) ?_;exact df
theorem Gi(bb:Nat)(T:List TE)(hT:T.length=16)(va:Nat)(hva:va≤4294967295)(w:World)(hi:Inv w (bK [sH bb T]) [sH bb T] w):Ctr prog 253 [.pointer (some ⟨bb,0,none⟩),.int .u32 va] w [sH bb T] (fun x cs=>x= .tuple #[]∧cs=[sH bb (sI T va)]):=by
 have hlt:va/64%16<T.length:=by omega
 have he:T[va/64%16]? =some (xU T va):=by simp[xU,hlt]
 have hcell:(eV T)[(va/64%16)*4+1]? =some (.int .u32 (xU T va).vpn):=by
  have h1:=j5 he;have h2:(((eV T).drop ((va/64%16)*4)).take 4)[1]? =some (.int .u32 (xU T va).vpn):=by rw[h1];rfl
  rw[List.getElem?_take,if_pos (by omega),List.getElem?_drop]at h2;exact h2
 unfold sI;obtain⟨e,hee⟩:=Zgn (xU T va);rw[hee]at hcell⊢;refine bL func253 rfl ntmps253 rfl hi ?_;refine Z_3 ?_;refine Zy (jD (Zv rfl) (Zv rfl) (by omega) (show _=((va/64:Nat):Int)from by rw[bz (by omega),u32_wrap_id _ (by omega) (by omega)];omega)) ?_;refine Z_4 ?_;refine bR ⟨fun j=>List.elem j [],[]⟩ Zk ?_;refine gn ?_;refine ZE 3 ?_;refine ZFe 4 0 ?_;refine ce 2 Zk ?_;refine ZT (fun w hi=>qt (va/64) w) ?_;rintro _ _ ⟨_,⟨rfl,rfl⟩,rfl⟩;refine cD 5 rfl Zk Zk Zk (cV (j:=(va/64%16)) (sz:=4) (r:=(va/64%16)*4) rfl Zrf (Zv rfl) (Zv rfl) (fun _=>by omega) (fun _=>by omega) (by omega)) rfl ?_;refine ZE 6 ?_;refine dr ?_;refine Z_6 ?_;refine dL (bO Zrf Zv0) (cB Zh hcell) rfl ?_;refine Z_4 ?_;refine ZW ?_ ?_<;>intro hc2
 ·rw[hc2];refine Z_4 ?_;refine dD (jJ (n:=4) (vs:=TE.zero.cells) Zrf rfl rfl (jp rfl) Za rfl (by rw[ik];simp only[TE.cells,aj,ao];omega)) ?_;rintro _ _ ⟨rfl,rfl⟩;rw[show TE.zero.cells.length=4 from rfl,lG (T:=T) TE.zero hlt];refine Zn (iF (cs':=[row _ _ _]) (.inr rfl) Zu rfl ?_);exact df
 rw[hc2];refine Zc (iF (cs':=[row _ _ _]) (.inr rfl) Zu rfl ?_);exact df
theorem C6(bb:Nat)(T:List TE)(hT:T.length=16)(w:World)(hi:Inv w (bK [sH bb T]) [sH bb T] w):Ctr prog 252 [.pointer (some ⟨bb,0,none⟩)] w [sH bb T] (fun x cs=>x= .tuple #[]∧cs=[sH bb eE]):=by
 refine bL func252 rfl ntmps252 rfl hi ?_;refine Z_2 ?_;refine Zy (ix (vs:=eV eE) Zk (.inr ⟨_,_,_,rfl,fun _=>rfl⟩)) ?_;refine Z_2 ?_;refine dD (jJ (n:=64) Zrf rfl rfl (jp Zk) Za Zk (by rw[ik,ik,hT];decide)) ?_;rintro _ _ ⟨rfl,rfl⟩;rw[show(eV eE).length=64 by kernel_rfl,List.take_zero,aP,List.drop_eq_nil_of_le (by rw[ik,hT];decide),ax];refine Zn (iF (cs':=[row _ _ _]) (.inr rfl) Zu rfl ?_);exact df
theorem z7(kind:Int)(w:World):Ctr prog 122 [.int .i64 kind] w [] (fun x cs=>x= .int .i64 (fault kind)∧cs=[]):=by
 refine bL func122 rfl ntmps122 rfl (Inv.start w) ?_;refine AI ?_;refine ZW ?_ ?_<;>intro hc2
 ·refine fG ?_;refine⟨?_,rfl⟩;simp only[fault, *,ac,aa]
 refine Z_6 ?_;refine ZW ?_ ?_<;>intro hc4
 ·refine fG ?_;refine⟨?_,rfl⟩;simp only[fault, *,ac,aa]
 refine Z_6 ?_;refine ZW ?_ ?_<;>intro hc6
 ·refine fG ?_;refine⟨?_,rfl⟩;simp only[fault, *,ac,aa]
 refine Z_9 ?_;refine Zra ?_;refine⟨?_,rfl⟩;simp only[fault, *,ac,aa]
theorem F4(kind:Int)(Jq:Bool)(w:World):Ctr prog 210 [.int .i64 kind,.bool Jq] w [] (fun x cs=>x= .int .u32 (nL kind Jq)∧cs=[]):=by
 refine bL func210 rfl ntmps210 rfl (Inv.start w) ?_;refine lw ?_;refine Z_3 ?_;refine ZW ?_ ?_<;>intro hc3
 ·refine gL ?_;refine ZW ?_ ?_<;>intro hc9
  ·have hs:Jq=false:=by simpa using hc9
   refine jA ?_;refine Zra ?_;refine⟨?_,rfl⟩;simp only[nL,iH, *,ac,aa]
  have hs:Jq=true:=by simpa using hc9
  refine Z_9 ?_;refine Zra ?_;refine⟨?_,rfl⟩;simp only[nL,iH, *,ac,aa]
 refine Z_6 ?_;refine ZW ?_ ?_<;>intro hc5
 ·refine gL ?_;refine ZW ?_ ?_<;>intro hc9
  ·have hs:Jq=false:=by simpa using hc9
   refine jA ?_;refine Zra ?_;refine⟨?_,rfl⟩;simp only[nL,iH, *,ac,aa]
  have hs:Jq=true:=by simpa using hc9
  refine Z_9 ?_;refine Zra ?_;refine⟨?_,rfl⟩;simp only[nL,iH, *,ac,aa]
 refine Z_6 ?_;refine ZW ?_ ?_<;>intro hc7
 ·refine gL ?_;refine ZW ?_ ?_<;>intro hc9
  ·have hs:Jq=false:=by simpa using hc9
   refine jA ?_;refine Zra ?_;refine⟨?_,rfl⟩;simp only[nL,iH, *,ac,aa]
  have hs:Jq=true:=by simpa using hc9
  refine Z_9 ?_;refine Zra ?_;refine⟨?_,rfl⟩;simp only[nL,iH, *,ac,aa]
 refine dS ?_;refine ZW ?_ ?_<;>intro hc9
 ·have hs:Jq=false:=by simpa using hc9
  refine jA ?_;refine Zra ?_;refine⟨?_,rfl⟩;simp only[nL,iH, *,ac,aa]
 have hs:Jq=true:=by simpa using hc9
 refine Z_9 ?_;refine Zra ?_;refine⟨?_,rfl⟩;simp only[nL,iH, *,ac,aa]
end Go.Proofs.YtakodpimdalajaaGreatDoor
namespace Go.Ink
open Go.RowKit
theorem and1{v:Int}(h:u32 v):bits .and .u32 v 1=v%2:=bits_mask .u32 32 Wq5 wraps_u32 1 Wq5 v h.1 (by have:=h.2;omega)
theorem AG{v:Int}(h:u32 v):bits .and .u32 v 15=v%16:=bits_mask .u32 32 Wq5 wraps_u32 4 Wq5 v h.1 (by have:=h.2;omega)
theorem IS(a:Int)(n:Nat):a.fdiv (2^n)=a/2^n:=Int.fdiv_eq_ediv_of_nonneg a (by exact Int.le_of_lt (Int.pow_pos Wq5))
theorem xz(v:Nat)(h:v≤4294967295):bits .andNot .u32 (v:Int) 63=((v/64*64:Nat):Int):=by
 show IntKind.u32.wrap (((BitVec.ofInt 32 (v:Int))&&& ~~~ (BitVec.ofInt 32 63)).toNat:Int)=_;have e1:(BitVec.ofInt 32 (v:Int)).toNat=v:=by rw[BitVec.ofInt_natCast,BitVec.toNat_ofNat];exact Nat.mod_eq_of_lt Wq1
 have h1:v&&&4294967232=(v/64)*64:=by
  apply Nat.eq_of_testBit_eq;intro i;have e:(4294967232:Nat)=(2^26 - 1)*2^6:=by decide
  rw[e,Nat.testBit_and,show(v/64)*64=(v/2^6)*2^6 from rfl];rw[Nat.testBit_mul_two_pow,Nat.testBit_mul_two_pow,Nat.testBit_two_pow_sub_one,Nat.testBit_div_two_pow];by_cases hi:6≤i
  ·simp only[hi,decide_true,Bool.true_and,show i - 6+6=i by omega];by_cases h26:i - 6<26
   ·simp[h26]
   have:v.testBit i=false:=Nat.testBit_lt_two_pow (Nat.lt_of_lt_of_le (show v<2^32 by omega) (Nat.pow_le_pow_right Wq1 Wq1));simp[this]
  simp[hi]
 rw[BitVec.toNat_and,e1,show(~~~ (BitVec.ofInt 32 63)).toNat=4294967232 from by decide,h1];exact u32_wrap_id _ Wq1 Wq1
def I8(o:Option Int):Value:=match o with|some e=> .tuple #[.int .u32 e,.bool true]|none=> .tuple #[.int .u32 0,.bool false]
theorem nq{n:Nat}{d:List Int}{a:Nat}{e:Int}(h:u8s d)(he:jV n d a=some e):u32 e∧a+4≤n*64:=by
 unfold jV at he;cases hc:decide (a+4≤n*64)with
 |true=>
  rw[hc]at he;simp only[ac,aR]at he;subst he;exact⟨sX h a,of_decide_eq_true hc⟩
 |false=>rw[hc]at he;cases he
theorem D6{n:Nat}{d:List Int}{root va a:Nat}{l:Int}(h:u8s d)(hl:lZ n d root va=some (a,l)):u32 l∧a+4≤n*64:=by
 unfold lZ at hl;cases hc:decide (16384≤va)with
 |true=>rw[hc]at hl;cases hl
 |false=>
  rw[hc]at hl;simp only[aa]at hl;obtain⟨e,h1,h2⟩:=Option.bind_eq_some_iff.1 hl;unfold yw at h2;cases hc2:(e%2==0)with
  |true=>rw[hc2]at h2;cases h2
  |false=>
   rw[hc2]at h2;simp only[aa]at h2;obtain⟨l',h3,h4⟩:=Option.map_eq_some_iff.1 h2;simp only[aW]at h4;obtain⟨rfl,rfl⟩:=h4;exact nq h h3
theorem gZ(op:BinOp)(a b:Int):u32 (bits op .u32 a b):=by
 cases op<;>exact⟨by show 0≤IntKind.u32.wrap _;rw[aE];omega,by show IntKind.u32.wrap _≤_;rw[aE];omega⟩
theorem tI(l:Int)(kind:Int):u32 (m4 l kind):=by
 unfold m4;cases(kind==3)
 ·exact gZ .or _ _
 exact gZ .or _ _
end Go.Ink
namespace Go.Proofs.YtakodpimdalajaaGreatDoor
open Go.RowKit Go.Ink Go.Proofs.Tryz
attribute [local irreducible] OpY bP
theorem Ae(L:fa)(M:Mem)(a:Nat)(ha:a≤4294967295000)(w:World)(h:(ek L M).ok w):Ctr prog 255 [.pointer (some ⟨L.bm,0,none⟩),.int .u64 a] w [] (fun v cs=>v=I8 (jV L.n M.data a)∧cs=[]):=by
 obtain⟨n1,n64,hdl,hdb,htl⟩:=ls h;refine bL func255 rfl ntmps255 rfl (Inv.start w) ?_;refine fF ?_;refine ZSe (fun w hi=>kU L M w (bJ.old h hi)) ?_;refine Zy (bW rfl rfl (Zv rfl) sF) ?_;refine Z_3 ?_;refine ZW ?_ ?_<;>intro hc1
 ·simp only[ak]at hc1;have hc:decide (a+4≤L.n*64)=false:=az Wq1
  refine Z_8 ?_;refine jh ?_;unfold I8 jV;rw[hc];exact df
 simp only[ah]at hc1;refine Z_3 ?_;refine(Bool.eq_false_or_eq_true (decide (a+4≤L.n*64))).elim (fun h0=>?_) (fun h0=>?_)
 ·refine Z_3 ?_;refine Zy (bW rfl rfl (Zv rfl) (u32_wrap_id _ Wq1 Wq1)) ?_;refine ZSe (fun w hi=>uG L M a Wq1 w (bJ.old h hi)) ?_;unfold I8 jV xN;rw[h0];simp only[ac];refine Z_7 ?_;refine jh ?_;exact df
 refine Z_3 ?_;refine Zy (bW rfl rfl (Zv rfl) (u32_wrap_id _ Wq1 Wq1)) ?_;refine ZSe (fun w hi=>uG L M a Wq1 w (bJ.old h hi)) ?_;unfold I8 jV xN;rw[h0];simp only[aa];refine Z_7 ?_;refine jh ?_;exact df
theorem look_ok(L:fa)(M:Mem)(root va:Nat)(hroot:root≤4294967295)(hva:va≤4294967295)(w:World)(h:(ek L M).ok w):Ctr prog 211 [.pointer (some ⟨L.bm,0,none⟩),.int .u32 root,.int .u32 va] w [] (fun v cs=>v=lookV (lZ L.n M.data root va)∧cs=[]):=by
 obtain⟨n1,n64,hdl,hdb,htl⟩:=ls h;obtain⟨e1,he1⟩:=Zgn (jV L.n M.data (at1 root va));have HE1:=Ae L M (at1 root va) (by unfold at1;omega);rw[he1]at HE1;refine bL func211 rfl ntmps211 rfl (Inv.start w) ?_;refine AI ?_;refine ZW ?_ ?_<;>intro hc1
 ·have hc:decide (16384≤va)=true:=by(have h0:(16384:Int)≤va:=by simpa using hc1);exact ay Wq1
  have hl:lZ L.n M.data root va=none:=by(unfold lZ;rw[hc];rfl)
  rw[hl];refine Z_9 ?_;refine sK (cs':=[]) (.inl rfl) Zu rfl rfl rfl rfl ?_;exact df
 have hlt:va<16384:=by(have h0:¬(16384:Int)≤va:=by simpa using hc1);omega
 have hl:lZ L.n M.data root va=e1.bind (yw L.n M.data va):=by(unfold lZ;rw[az Wq1,he1];rfl)
 rw[hl];refine Z_3 ?_;revert HE1 he1;refine Option.rec (fun he1 HE1=>?_) (fun e he1 HE1=>?_) e1
 ·refine Z_3 ?_;refine Zy (qk Zv0 Zv0 (xz root hroot)) ?_;refine Zy (bW rfl rfl (Zv rfl) sF) ?_;refine ZA ?_;refine Zy (j0 (Zv rfl) (Zv rfl) Wq1 (show _=((va/1024:Nat):Int)from(IS _ 10).trans Wq1)) ?_;refine Zy (nG (Zv rfl) (Zv rfl) (show _=((va/1024%16:Nat):Int)from(AG ⟨by omega,by omega⟩).trans Wq1)) ?_;refine Zy (i4 (Zv rfl) (Zv rfl) (show _=((4*(va/1024%16):Nat):Int)from(u32_wrap_id _ Wq1 Wq1).trans Wq1)) ?_;refine Zy (bW rfl rfl (Zv rfl) sF) ?_;refine Zy (cX (Zv rfl) (Zv rfl) (show _=((at1 root va:Nat):Int)from(u64_wrap_id _ Wq1 Wq1).trans (by unfold at1;omega))) ?_;refine ZSe (fun w hi=>HE1 w (bJ.old h hi)) ?_;simp only[I8];refine FT ?_;refine bU rfl (rfl) ?_;refine Z_9 ?_;refine sK (cs':=[]) (.inl rfl) Zu rfl rfl rfl rfl ?_;exact df
 refine Z_3 ?_;refine Zy (qk Zv0 Zv0 (xz root hroot)) ?_;refine Zy (bW rfl rfl (Zv rfl) sF) ?_;refine ZA ?_;refine Zy (j0 (Zv rfl) (Zv rfl) Wq1 (show _=((va/1024:Nat):Int)from(IS _ 10).trans Wq1)) ?_;refine Zy (nG (Zv rfl) (Zv rfl) (show _=((va/1024%16:Nat):Int)from(AG ⟨by omega,by omega⟩).trans Wq1)) ?_;refine Zy (i4 (Zv rfl) (Zv rfl) (show _=((4*(va/1024%16):Nat):Int)from(u32_wrap_id _ Wq1 Wq1).trans Wq1)) ?_;refine Zy (bW rfl rfl (Zv rfl) sF) ?_;refine Zy (cX (Zv rfl) (Zv rfl) (show _=((at1 root va:Nat):Int)from(u64_wrap_id _ Wq1 Wq1).trans (by unfold at1;omega))) ?_;refine ZSe (fun w hi=>HE1 w (bJ.old h hi)) ?_;simp only[I8];refine dS ?_;have heu:=(nq hdb he1).1;obtain⟨eu0,eu1⟩:=heu;refine Z_4 ?_;refine Zyn rfl rfl (nG (dH rfl) Zv0 (and1 ⟨eu0,eu1⟩)) ?_;refine Z_4 ?_;refine ZW ?_ ?_<;>intro hc4
 ·have hc:(e%2==0)=true:=hc4;have hl2:(some e).bind (yw L.n M.data va)=none:=by(simp only[Option.bind_some];unfold yw;rw[hc];rfl)
  rw[hl2];refine Z_9 ?_;refine sK (cs':=[]) (.inl rfl) Zu rfl rfl rfl rfl ?_;exact df
 have hc:(e%2==0)=false:=hc4;have hl2:(some e).bind (yw L.n M.data va)=(jV L.n M.data (at2 e va)).map fun l=>(at2 e va,l):=by(simp only[Option.bind_some];unfold yw;rw[hc];rfl)
 rw[hl2];obtain⟨e2,he2⟩:=Zgn (jV L.n M.data (at2 e va));have HE2:=Ae L M (at2 e va) (by unfold at2;omega);rw[he2]at HE2⊢;have hat:((at2 e va:Nat):Int)=e/256*64+4*((va/64%16:Nat):Int):=(by unfold at2;omega);refine Z_5 ?_;refine Zy (j0 (Zv rfl) (Zv rfl) Wq1 (show _=e/256 from IS _ 8)) ?_;refine Zy (bW rfl rfl (Zv rfl) sF) ?_;refine Zy (i4 (Zv rfl) (Zv rfl) (show _=e/256*64 from u64_wrap_id _ Wq1 Wq1)) ?_;refine ZA ?_;refine Zy (j0 (Zv rfl) (Zv rfl) Wq1 (show _=((va/64:Nat):Int)from(IS _ 6).trans Wq1)) ?_;refine Zy (nG (Zv rfl) (Zv rfl) (show _=((va/64%16:Nat):Int)from(AG ⟨by omega,by omega⟩).trans Wq1)) ?_;refine Zy (i4 (Zv rfl) (Zv rfl) (show _=((4*(va/64%16):Nat):Int)from(u32_wrap_id _ Wq1 Wq1).trans Wq1)) ?_;refine Zy (bW rfl rfl (Zv rfl) sF) ?_;refine Zy (cX (Zv rfl) (Zv rfl) (show _=((at2 e va:Nat):Int)from(u64_wrap_id _ Wq1 Wq1).trans Wq1)) ?_;refine Z_4 ?_;revert HE2 he2;refine Option.rec (fun he2 HE2=>?_) (fun l he2 HE2=>?_) e2
 ·refine Z_3 ?_;refine ZSe (fun w hi=>HE2 w (bJ.old h hi)) ?_;simp only[I8];refine gL ?_;refine bU rfl (rfl) ?_;refine Z_9 ?_;refine sK (cs':=[]) (.inl rfl) Zu rfl rfl rfl rfl ?_;exact df
 refine Z_3 ?_;refine ZSe (fun w hi=>HE2 w (bJ.old h hi)) ?_;simp only[I8];refine gL ?_;refine gx ?_;refine Z_4 ?_;have h2in:=(nq hdb he2).2;refine ZA ?_;refine Zy (bW rfl rfl (Zv rfl) (u32_wrap_id _ Wq1 Wq1)) ?_;refine Z_7 ?_;refine sK (cs':=[]) (.inl rfl) Zu rfl rfl rfl rfl ?_;exact df
theorem wdo_ok(L:fa)(M:Mem)(root va:Nat)(hroot:root≤4294967295)(hva:va≤4294967295)(kind:Int)(Jq:Bool)(w:World)(hi:Inv w (bK [ek L M]) [ek L M] w):
  Ctr prog 159 [.pointer (some ⟨L.bm,0,none⟩),.int .u32 root,.int .u32 va,.int .i64 kind,.bool Jq] w [ek L M] (fun v cs=>v= .tuple #[(gI L.n M root va kind Jq).1.1.v,(gI L.n M root va kind Jq).1.2.v]∧cs=[ek L (gI L.n M root va kind Jq).2]):=by
 obtain⟨n1,n64,hdl,hdb,htl⟩:=ls (hi.ok _ (List.mem_cons_self ..));obtain⟨fk,hfk⟩:=Zgn (fault kind);obtain⟨wb,hwb⟩:=Zgn (nL kind Jq);obtain⟨lk,hlk⟩:=Zgn (lZ L.n M.data root va);have HF:=z7 kind;have HB:=F4 kind Jq;have HL:=look_ok L M root va hroot hva;unfold gI;rw[hfk]at HF⊢;rw[hwb]at HB⊢;rw[hlk]at HL⊢;refine bL func159 rfl ntmps159 rfl hi ?_;refine Z_2 ?_;refine ZN fun b10=>?_;refine ZN fun b11=>?_
 refine Z_5 ?_;refine ZSe (fun w hi=>HF w) ?_;refine gL ?_;refine ZW ?_ ?_<;>intro hc2
 ·have hc:(fk==0)=true:=hc2;rw[hc];simp only[ac];refine Z_5 ?_;refine ZM ?_;refine ZM ?_;refine Z_4 ?_;refine x6 (cs':=[exC _ _ _ _]) (.inl rfl) Zu rfl rfl rfl Zh Zh Zrf Zrf Zrf Zrf ?_;exact df
 have hc:(fk==0)=false:=hc2;rw[hc];simp only[aa];refine Z_6 ?_;refine ZSe (fun w hi=>HB w) ?_;refine Z_4 ?_;revert HL hlk;refine Option.rec (fun hlk HL=>?_) (fun al hlk HL=>?_) lk
 ·refine Z_4 ?_;refine ZSe (fun w hi=>HL w (hi.get Zh)) ?_;simp only[lookV];refine lw ?_;refine Z_3 ?_;refine bU rfl (rfl) ?_;refine Z_6 ?_;refine ZM ?_;refine ZM ?_;refine Z_4 ?_;refine x6 (cs':=[exC _ _ _ _]) (.inl rfl) Zu rfl rfl rfl Zh Zh Zrf Zrf Zrf Zrf ?_;exact df
 obtain⟨a,l⟩:=al;have hin:=D6 hdb hlk;obtain⟨lu,ain⟩:=hin;obtain⟨lu0,lu1⟩:=lu;have mu:=tI l kind;simp only;refine Z_4 ?_;refine ZSe (fun w hi=>HL w (hi.get Zh)) ?_;simp only[lookV];refine lw ?_;refine Z_3 ?_;refine ZW ?_ ?_<;>intro hc6
 ·have hc6':(bits .and .u32 l wb !=wb)=true:=hc6;rw[hc6'];simp only[ac];refine Z_6 ?_;refine ZM ?_;refine ZM ?_;refine Z_4 ?_;refine x6 (cs':=[exC _ _ _ _]) (.inl rfl) Zu rfl rfl rfl Zh Zh Zrf Zrf Zrf Zrf ?_;exact df
 have hc6':(bits .and .u32 l wb !=wb)=false:=hc6;rw[hc6'];simp only[aa];refine lw ?_;refine Z_2 ?_;refine ZW ?_ ?_<;>intro hc10
 ·have hm:m4 l kind=bits .or .u32 (bits .or .u32 l 32) 64:=by(unfold m4;rw[hc10];rfl)
  rw[hm]at mu⊢;obtain⟨m,hmm⟩:=Zgn (bits .or .u32 (bits .or .u32 l 32) 64);refine Z_9 ?_;rw[hmm]at mu⊢;refine Z_5 ?_;refine ZW ?_ ?_<;>intro hc12
  ·rw[hc12];simp only[ac];refine Z_4 ?_;refine ZcM ([ek L M]) (fun w hi hin=>ng L M a m ain mu w hin) ?_;refine Z_5 ?_;refine Zy (jD (Zv rfl) (Zv rfl) Wq1 (show _=((va/64:Nat):Int)from by rw[bz Wq1,u32_wrap_id _ Wq1 Wq1];omega)) ?_;refine ZA ?_;refine Zy (j0 (Zv rfl) (Zv rfl) Wq1 (show _=m/256 from IS _ 8)) ?_;refine Z_4 ?_;refine ZM ?_;refine ZM ?_;refine Z_3 ?_;refine x6 (cs':=[exC _ _ _ _]) (.inl rfl) Zu rfl rfl rfl Zh Zh Zrf Zrf Zrf Zrf ?_;exact df
  rw[hc12];simp only[aa];refine Z_5 ?_;refine Zy (jD (Zv rfl) (Zv rfl) Wq1 (show _=((va/64:Nat):Int)from by rw[bz Wq1,u32_wrap_id _ Wq1 Wq1];omega)) ?_;refine ZA ?_;refine Zy (j0 (Zv rfl) (Zv rfl) Wq1 (show _=m/256 from IS _ 8)) ?_;refine Z_4 ?_;refine ZM ?_;refine ZM ?_;refine Z_3 ?_;refine x6 (cs':=[exC _ _ _ _]) (.inl rfl) Zu rfl rfl rfl Zh Zh Zrf Zrf Zrf Zrf ?_;exact df
 have hm:m4 l kind=bits .or .u32 l 32:=by(unfold m4;rw[hc10];rfl)
 rw[hm]at mu⊢;obtain⟨m,hmm⟩:=Zgn (bits .or .u32 l 32);refine Z_5 ?_;rw[hmm]at mu⊢;refine Z_5 ?_;refine ZW ?_ ?_<;>intro hc12
 ·rw[hc12];simp only[ac];refine Z_4 ?_;refine ZcM ([ek L M]) (fun w hi hin=>ng L M a m ain mu w hin) ?_;refine Z_5 ?_;refine Zy (jD (Zv rfl) (Zv rfl) Wq1 (show _=((va/64:Nat):Int)from by rw[bz Wq1,u32_wrap_id _ Wq1 Wq1];omega)) ?_;refine ZA ?_;refine Zy (j0 (Zv rfl) (Zv rfl) Wq1 (show _=m/256 from IS _ 8)) ?_;refine Z_4 ?_;refine ZM ?_;refine ZM ?_;refine Z_3 ?_;refine x6 (cs':=[exC _ _ _ _]) (.inl rfl) Zu rfl rfl rfl Zh Zh Zrf Zrf Zrf Zrf ?_;exact df
 rw[hc12];simp only[aa];refine Z_5 ?_;refine Zy (jD (Zv rfl) (Zv rfl) Wq1 (show _=((va/64:Nat):Int)from by rw[bz Wq1,u32_wrap_id _ Wq1 Wq1];omega)) ?_;refine ZA ?_;refine Zy (j0 (Zv rfl) (Zv rfl) Wq1 (show _=m/256 from IS _ 8)) ?_;refine Z_4 ?_;refine ZM ?_;refine ZM ?_;refine Z_3 ?_;refine x6 (cs':=[exC _ _ _ _]) (.inl rfl) Zu rfl rfl rfl Zh Zh Zrf Zrf Zrf Zrf ?_;exact df
end Go.Proofs.YtakodpimdalajaaGreatDoor
namespace Go.Ink
open Go.RowKit
theorem Hg{va:Nat}(h:va≤4294967295){l:Int}(hl:u32 l):(leafE va l).wf:=
 ⟨⟨by show(0:Int)≤((va/64:Nat):Int);omega,by show((va/64:Nat):Int)≤_;omega⟩,⟨by show 0≤l/256;have:=hl.1;omega,by show l/256≤_;have:=hl.1;have:=hl.2;omega⟩,gZ .and _ _⟩
theorem TE.Km:TE.zero.wf:=⟨⟨by decide,by decide⟩,⟨by decide,by decide⟩,⟨by decide,by decide⟩⟩
theorem CH(n:Nat)(M:Mem)(root va:Nat)(h:va≤4294967295)(kind:Int)(Jq:Bool):(gI n M root va kind Jq).1.1.wf:=by
 unfold gI;cases(fault kind==0)with
 |true=>exact TE.Km
 |false=>
  simp only[aa];split
  ·exact TE.Km
  rename_i a l _
  cases(bits .and .u32 l (nL kind Jq) !=nL kind Jq)with
  |true=>exact TE.Km
  |false=>exact Hg h (tI l kind)
theorem C7(T:List TE)(e:TE):(C8 T e).length=T.length:=by unfold C8;cases e.valid<;>simp
theorem Da(T:List TE)(va:Nat):(sI T va).length=T.length:=by unfold sI;cases((xU T va).vpn==((va/64:Nat):Int))<;>simp
theorem vR(n:Nat)(U:Mmu)(s:Sp)(va:Nat)(kind:Int):(cZ n U s va kind).2.t.length=U.t.length:=by
 unfold cZ;cases(!s.Jv)<;>simp only[ac,aa]
 cases(p8 U.t va kind s.Jq).2<;>simp only[ac,aa]
 cases((gI n U.m s.root va kind s.Jq).1.2.Jr !=0)<;>simp only[ac,aa,C7]
theorem rj(n:Nat)(U:Mmu)(s:Sp)(va:Nat)(kind:Int):(cM n U s va kind).2.t.length=U.t.length:=by
 have h:=vR n U s va kind;unfold cM;cases(fault kind==0)<;>simp only[ac,aa]
 cases((cZ n U s va kind).1.2.Jr !=0)<;>simp only[ac,aa,h]
 cases(decide ((cZ n U s va kind).1.1<((n*64:Nat):Int))||((kind !=1)&&qb (cZ n U s va kind).1.1))<;>simp only[ac,aa,h]
end Go.Ink
namespace Go.Proofs.YtakodpimdalajaaGreatDoor
open Go.RowKit Go.Ink Go.Proofs.Tryz
attribute [local irreducible] OpY bP
abbrev FS(bu bm bb:Nat):bJ:=row bu [.pointer (some ⟨bm,0,none⟩),.pointer (some ⟨bb,0,none⟩)] 159
abbrev uF(bu bb:Nat)(L:fa)(U:Mmu):List bJ:=[FS bu L.bm bb,ek L U.m,sH bb U.t]
theorem sd(a:Int)(w:World):Ctr prog 124 [.int .u32 a] w [] (fun v cs=>v= .bool (qb a)∧cs=[]):=by
 refine bL func124 rfl ntmps124 rfl (Inv.start w) ?_;refine vz ?_;refine Zra ?_;exact df
theorem DT(bm:Nat)(w:World):Ctr prog 38 [.pointer (some ⟨bm,0,none⟩)] w [] (fun v cs=>∃bu bb,v= .tuple #[.pointer (some ⟨bu,0,none⟩),.int .i64 0]∧cs=[sH bb eE,FS bu bm bb]):=by
 refine bL func38 rfl ntmps38 rfl (Inv.start w) ?_;refine jA ?_;refine gx ?_;refine Z_5 ?_;refine ZS (fun w hi=>C0 w) ?_;rintro _ _ ⟨_,⟨bb,rfl,rfl⟩,rfl⟩;refine ZA ?_;refine ZO fun b9=>?_
 refine Z_5 ?_;refine rc (cs':=[row _ _ _,row _ _ _]) (.inl rfl) Zu rfl rfl rfl ?_;exact⟨_,_,rfl,rfl⟩
theorem kQ(bu bm bb:Nat)(w:World)(h:(FS bu bm bb).ok w):Ctr prog 93 [.pointer (some ⟨bu,0,none⟩)] w [] (fun v cs=>v= .pointer (some ⟨bm,0,none⟩)∧cs=[]):=by
 refine bL func93 rfl ntmps93 rfl (Inv.start w) ?_;refine dS ?_;refine sB ?_;refine Z_4 ?_;refine Zra ?_;exact df
theorem F8(bu bb:Nat)(L:fa)(U:Mmu)(hT:U.t.length=16)(va:Nat)(hva:va≤4294967295)(w:World)(hi:Inv w (bK (uF bu bb L U)) (uF bu bb L U) w):Ctr prog 202 [.pointer (some ⟨bu,0,none⟩),.int .u32 va] w (uF bu bb L U) (fun v cs=>v= .tuple #[]∧cs=uF bu bb L ⟨U.m,sI U.t va⟩):=by
 refine bL func202 rfl ntmps202 rfl hi ?_;refine Z_6 ?_;refine ZcM ([sH bb U.t]) (fun w hi hin=>Gi bb U.t hT va hva w hin) ?_;refine Zn (bN (uF bu bb L ⟨U.m,sI U.t va⟩) Zj ?_);refine iF (cs':=uF _ _ _ _) (.inr rfl) Zu rfl ?_;exact df
theorem CN(bu bb:Nat)(L:fa)(U:Mmu)(hT:U.t.length=16)(w:World)(hi:Inv w (bK (uF bu bb L U)) (uF bu bb L U) w):Ctr prog 201 [.pointer (some ⟨bu,0,none⟩)] w (uF bu bb L U) (fun v cs=>v= .tuple #[]∧cs=uF bu bb L ⟨U.m,eE⟩):=by
 refine bL func201 rfl ntmps201 rfl hi ?_;refine Z_5 ?_;refine ZcM ([sH bb U.t]) (fun w hi hin=>C6 bb U.t hT w hin) ?_;refine Zn (bN (uF bu bb L ⟨U.m,eE⟩) Zj ?_);refine iF (cs':=uF _ _ _ _) (.inr rfl) Zu rfl ?_;exact df
abbrev trC(b:Nat)(t:Tr):bJ:=row b t.cells 177
abbrev teC(b:Nat)(e:TE):bJ:=row b e.cells 150
theorem CQ(bu bb:Nat)(L:fa)(U:Mmu)(hT:U.t.length=16)(s:Sp)(hr:s.root≤4294967295)(va:Nat)(hva:va≤4294967295)(kind:Int)(w:World)(hi:Inv w (bK (uF bu bb L U)) (uF bu bb L U) w):
  Ctr prog 123 [.pointer (some ⟨bu,0,none⟩),s.v,.int .u32 va,.int .i64 kind] w (uF bu bb L U) (fun v cs=>v= .tuple #[.int .u32 (cZ L.n U s va kind).1.1,(cZ L.n U s va kind).1.2.v]∧cs=uF bu bb L (cZ L.n U s va kind).2):=by
 obtain⟨fd,hfd⟩:=Zgn (p8 U.t va kind s.Jq);obtain⟨wd,hwd⟩:=Zgn (gI L.n U.m s.root va kind s.Jq);have hwf:=CH L.n U.m s.root va hva kind s.Jq;have HFD:=Gg bb U.t hT va hva kind s.Jq;have HWD:=wdo_ok L U.m s.root va hr hva kind s.Jq;unfold cZ;rw[hfd]at HFD⊢;rw[hwd]at HWD hwf⊢;obtain⟨⟨te,tr⟩,M'⟩:=wd;simp only at HWD hwf⊢;refine bL func123 rfl ntmps123 rfl hi ?_;refine Z_2 ?_;refine ZO fun b5=>?_;refine ZA ?_;refine ZN fun b9=>?_
 refine dS ?_;refine ZW ?_ ?_<;>intro hc1
 ·rw[hc1];simp only[ac];refine Z_5 ?_;refine ZM ?_;refine Z_4 ?_;refine nj (cs':=[row _ _ _,exC _ _ _ _,row _ _ _]) (.inl rfl) Zu rfl rfl rfl Zh Zrf Zrf ?_;exact df
 rw[hc1];simp only[aa];refine Z_4 ?_;refine bR ⟨fun j=>List.elem j [],[]⟩ Zk ?_;refine gn ?_;refine ZFe 2 1 ?_;refine ZG 3 ?_;refine ZE 4 ?_;refine ZE 5 ?_;refine ZFe 6 1 ?_;refine ZG 7 ?_;refine ce 8 Zk ?_;refine ZT (fun w hi=>HFD w (hi.get Zh)) ?_;rintro _ _ ⟨_,⟨rfl,rfl⟩,rfl⟩;refine ZE 9 ?_;refine ZE 10 ?_;refine ZE 11 ?_;refine ZE 12 ?_;refine ZE 13 ?_;refine dr ?_;refine Z_6 ?_;refine ZW ?_ ?_<;>intro hc4
 ·rw[hc4];simp only[ac];refine Z_5 ?_;refine ZM ?_;refine Z_4 ?_;refine nj (cs':=[row _ _ _,exC _ _ _ _,row _ _ _]) (.inl rfl) Zu rfl rfl rfl Zh Zrf Zrf ?_;exact df
 rw[hc4];simp only[aa];refine Z_2 ?_;refine cW (fun q:Nat×Nat=>[(0,.pointer (some ⟨bu,0,none⟩)),(2,.int .u32 va),(9,.pointer (some ⟨b9,0,none⟩)),(12,.pointer (some ⟨q.1,0,none⟩)),(13,.pointer (some ⟨q.2,0,none⟩))]) (fun q=>[FS bu L.bm bb,ek L M',sH bb U.t,trC b9 Tr.none,teC q.1 te,trC q.2 tr]) (fun _=>True) ?_ ?_
 ·refine bR ⟨fun j=>List.elem j [10,16,17],[]⟩ Zk ?_;refine gn ?_;refine ZFe 2 0 ?_;refine ZG 3 ?_;refine ZFe 4 2 ?_;refine ZG 5 ?_;refine ZE 6 ?_;refine ZE 7 ?_;refine ZFe 8 1 ?_;refine ZG 9 ?_;refine wa_3 10 14 15 Zk ?_ ?_ ?_
  ·refine ZcA ([ek L U.m]) (fun w hi hin=>HWD w hin) ?_;rintro _ _ ⟨_,⟨rfl,rfl⟩,rfl⟩;refine ZE 11 ?_;refine ZE 12 ?_;refine ZE 13 ?_;refine j4 14 15 Zk ?_ ?_
   ·refine ZP fun b12=>?_
    refine ce 15 Zk ?_;refine ZP fun b13=>?_
    refine ce 16 Zk ?_;refine dp rfl rfl (bV (vs:=te.cells) Zrf rfl rfl (jp rfl) Za (by exact rfl)) ZJ ?_;rintro _ _ ⟨rfl,rfl⟩;refine ce 17 Zk ?_;refine dp rfl rfl (bV (vs:=tr.cells) Zrf rfl rfl (jp rfl) Za (by exact rfl)) ZJ ?_;rintro _ _ ⟨rfl,rfl⟩;refine dr ?_;refine bY ((b12,b13)) ?_ ?_ ?_
    ·trivial
    ·exact Zwk
    exact Zj
   refine ZP fun b13=>?_
   refine ce 14 Zk ?_;refine ZP fun b12=>?_
   refine ce 16 Zk ?_;refine dp rfl rfl (bV (vs:=te.cells) Zrf rfl rfl (jp rfl) Za (by exact rfl)) ZJ ?_;rintro _ _ ⟨rfl,rfl⟩;refine ce 17 Zk ?_;refine dp rfl rfl (bV (vs:=tr.cells) Zrf rfl rfl (jp rfl) Za (by exact rfl)) ZJ ?_;rintro _ _ ⟨rfl,rfl⟩;refine dr ?_;refine bY ((b12,b13)) ?_ ?_ ?_
   ·trivial
   ·exact Zwk
   exact Zj
  ·refine ZP fun b12=>?_
   refine j4 10 15 Zk ?_ ?_
   ·refine ZcA ([ek L U.m]) (fun w hi hin=>HWD w hin) ?_;rintro _ _ ⟨_,⟨rfl,rfl⟩,rfl⟩;refine ZE 11 ?_;refine ZE 12 ?_;refine ZE 13 ?_;refine ce 15 Zk ?_;refine ZP fun b13=>?_
    refine ce 16 Zk ?_;refine dp rfl rfl (bV (vs:=te.cells) Zrf rfl rfl (jp rfl) Za (by exact rfl)) ZJ ?_;rintro _ _ ⟨rfl,rfl⟩;refine ce 17 Zk ?_;refine dp rfl rfl (bV (vs:=tr.cells) Zrf rfl rfl (jp rfl) Za (by exact rfl)) ZJ ?_;rintro _ _ ⟨rfl,rfl⟩;refine dr ?_;refine bY ((b12,b13)) ?_ ?_ ?_
    ·trivial
    ·exact Zwk
    exact Zj
   refine ZP fun b13=>?_
   refine ce 10 Zk ?_;refine ZcA ([ek L U.m]) (fun w hi hin=>HWD w hin) ?_;rintro _ _ ⟨_,⟨rfl,rfl⟩,rfl⟩;refine ZE 11 ?_;refine ZE 12 ?_;refine ZE 13 ?_;refine ce 16 Zk ?_;refine dp rfl rfl (bV (vs:=te.cells) Zrf rfl rfl (jp rfl) Za (by exact rfl)) ZJ ?_;rintro _ _ ⟨rfl,rfl⟩;refine ce 17 Zk ?_;refine dp rfl rfl (bV (vs:=tr.cells) Zrf rfl rfl (jp rfl) Za (by exact rfl)) ZJ ?_;rintro _ _ ⟨rfl,rfl⟩;refine dr ?_;refine bY ((b12,b13)) ?_ ?_ ?_
   ·trivial
   ·exact Zwk
   exact Zj
  refine ZP fun b13=>?_
  refine j4 10 14 Zk ?_ ?_
  ·refine ZcA ([ek L U.m]) (fun w hi hin=>HWD w hin) ?_;rintro _ _ ⟨_,⟨rfl,rfl⟩,rfl⟩;refine ZE 11 ?_;refine ZE 12 ?_;refine ZE 13 ?_;refine ce 14 Zk ?_;refine ZP fun b12=>?_
   refine ce 16 Zk ?_;refine dp rfl rfl (bV (vs:=te.cells) Zrf rfl rfl (jp rfl) Za (by exact rfl)) ZJ ?_;rintro _ _ ⟨rfl,rfl⟩;refine ce 17 Zk ?_;refine dp rfl rfl (bV (vs:=tr.cells) Zrf rfl rfl (jp rfl) Za (by exact rfl)) ZJ ?_;rintro _ _ ⟨rfl,rfl⟩;refine dr ?_;refine bY ((b12,b13)) ?_ ?_ ?_
   ·trivial
   ·exact Zwk
   exact Zj
  refine ZP fun b12=>?_
  refine ce 10 Zk ?_;refine ZcA ([ek L U.m]) (fun w hi hin=>HWD w hin) ?_;rintro _ _ ⟨_,⟨rfl,rfl⟩,rfl⟩;refine ZE 11 ?_;refine ZE 12 ?_;refine ZE 13 ?_;refine ce 16 Zk ?_;refine dp rfl rfl (bV (vs:=te.cells) Zrf rfl rfl (jp rfl) Za (by exact rfl)) ZJ ?_;rintro _ _ ⟨rfl,rfl⟩;refine ce 17 Zk ?_;refine dp rfl rfl (bV (vs:=tr.cells) Zrf rfl rfl (jp rfl) Za (by exact rfl)) ZJ ?_;rintro _ _ ⟨rfl,rfl⟩;refine dr ?_;refine bY ((b12,b13)) ?_ ?_ ?_
  ·trivial
  ·exact Zwk
  exact Zj
 rintro⟨b12,b13⟩ -;dsimp only;refine Z_8 ?_;refine ZW ?_ ?_<;>intro hc7
 ·rw[hc7];simp only[ac];refine Zs (bR ⟨fun j=>List.elem j [2],[]⟩ Zk ?_);refine ZI 0 ?_;refine ZE 1 ?_;refine ce 2 Zk ?_;refine ZR ?_;refine dr ?_;refine Z_3 ?_;refine nj (cs':=[row _ _ _,exC _ _ _ _,row _ _ _]) (.inl rfl) Zu rfl rfl rfl Zh Zrf Zrf ?_;exact df
 rw[hc7];simp only[aa];refine Z_3 ?_;refine bR ⟨fun j=>List.elem j [5],[]⟩ Zk ?_;refine gn ?_;refine ZFe 2 1 ?_;refine ZG 3 ?_;refine ZI 4 ?_;refine ce 5 Zk ?_;refine ZcA ([sH bb U.t]) (fun w hi hin=>Gh bb U.t hT te hwf w hin) ?_;rintro _ _ ⟨_,⟨rfl,rfl⟩,rfl⟩;refine dr ?_;refine Z_2 ?_;refine bR ⟨fun j=>List.elem j [8],[]⟩ Zk ?_;refine ZFe 0 2 ?_;refine ZG 1 ?_;refine cD 2 rfl Zk Zk Zk (i4 Zv0 Zv0 rfl) rfl ?_;refine ZE 3 ?_;refine cD 4 rfl Zk Zk Zk (gy (Zv rfl) (Zv rfl) Wq1 (show _=((va%64:Nat):Int)from by rw[aF Wq1];omega)) rfl ?_;refine cD 5 rfl Zk Zk Zk (cX Zv0 Zv0 rfl) rfl ?_;refine ZI 6 ?_;refine ZE 7 ?_;refine ce 8 Zk ?_;refine ZR ?_;refine dr ?_;refine Z_2 ?_;refine bN [FS bu L.bm bb,ek L M',sH bb (C8 U.t te),trC b9 tr] Zj ?_;refine nj (cs':=[row _ _ _,exC _ _ _ _,row _ _ _]) (.inl rfl) Zu rfl rfl rfl Zh Zrf Zrf ?_;exact df
end Go.Proofs.YtakodpimdalajaaGreatDoor
namespace Go.Ink
open Go.RowKit
theorem ro(pfn:Int)(va:Nat):u32 (pR pfn va)∧pR pfn va%64=((va%64:Nat):Int):=by
 unfold pR;rw[aE,aE];exact⟨⟨by omega,by omega⟩,by omega⟩
theorem uB(n:Nat)(U:Mmu)(s:Sp)(va:Nat)(hva:va≤4294967295)(kind:Int):u32 (cZ n U s va kind).1.1∧((cZ n U s va kind).1.2.Jr=0→(cZ n U s va kind).1.1%64=((va%64:Nat):Int)):=by
 unfold cZ;cases(!s.Jv)with
 |true=>exact⟨⟨by show(0:Int)≤(va:Int);omega,by show(va:Int)≤_;omega⟩,fun _=>by show(va:Int)%64=_;omega⟩
 |false=>
  simp only[aa];cases hf:(p8 U.t va kind s.Jq).2 with
  |true=>
   simp only[ac];unfold p8 at hf⊢;cases hn:nl (xU U.t va) va (asked kind s.Jq)with
   |true=>rw[hn]at hf;cases hf
   |false=>
    simp only[aa];have:=ro (xU U.t va).pfn va;exact⟨this.1,fun _=>this.2⟩
  |false=>
   simp only[aa];cases hc:((gI n U.m s.root va kind s.Jq).1.2.Jr !=0)with
   |true=>
    simp only[ac];refine⟨⟨by decide,by decide⟩,fun h=>?_⟩;rw[h]at hc;cases hc
   |false=>
    simp only[aa];have:=ro (gI n U.m s.root va kind s.Jq).1.1.pfn va;exact⟨this.1,fun _=>this.2⟩
structure FM(n:Nat)(va:Nat)(p:Int):Prop where
 u:u32 p
 m:p%64=((va%64:Nat):Int)
 r:p<((n*64:Nat):Int)∨qb p=true
theorem jb(n:Nat)(U:Mmu)(s:Sp)(va:Nat)(hva:va≤4294967295)(kind:Int):u32 (cM n U s va kind).1.1∧((cM n U s va kind).1.2.Jr=0→FM n va (cM n U s va kind).1.1):=by
 obtain⟨h1,h2⟩:=uB n U s va hva kind;have u0:u32 0:=⟨by decide,by decide⟩;unfold cM;cases hf:(fault kind==0)with
 |true=>exact⟨u0,fun h=>by cases h⟩
 |false=>
  simp only[aa];cases hc:((cZ n U s va kind).1.2.Jr !=0)with
  |true=>
   simp only[ac];refine⟨u0,fun h=>?_⟩;rw[h]at hc;cases hc
  |false=>
   simp only[aa];cases hr:(decide ((cZ n U s va kind).1.1<((n*64:Nat):Int))||((kind !=1)&&qb (cZ n U s va kind).1.1))with
   |false=>exact⟨u0,fun h=>by cases h⟩
   |true=>
    simp only[ac];refine⟨h1,fun h=>⟨h1,h2 h,?_⟩⟩;simp only[Bool.or_eq_true,ak,aB]at hr;rcases hr with hr|hr
    ·exact .inl hr
    exact .inr hr.2
def dX(va:Nat):Nat:=(va - va%64+64)%4294967296
theorem k8(va:Nat):dX va≤4294967295:=by unfold dX;omega
theorem wA(va:Nat):dX va%64=0:=by unfold dX;omega
def kA(a b:Int)(va j:Nat):Int:=bif decide (j<64 - va%64)then IntKind.u32.wrap (a+(j:Int))else IntKind.u32.wrap (b+((j - (64 - va%64):Nat):Int))
def kS(a b:Int)(va k:Nat):List Int:=(List.range k).map (kA a b va)
theorem mG(a b:Int)(va k:Nat):kS a b va (k+1)=kS a b va k++[kA a b va k]:=by simp[kS,List.range_succ]
theorem vW(a b:Int)(va k:Nat):(kS a b va k).length=k:=by simp[kS]
def fL(a b:Int)(va k:Nat)(t:Tr)(U:Mmu):(List Int×Tr)×Mmu:=
 bif qb a then(([],⟨10,va⟩),U)else bif(decide (((64 - va%64:Nat):Int)<(k:Int))&&qb b)then(([],⟨10,dX va⟩),U)else((kS a b va k,t),U)
def Bo(n:Nat)(s:Sp)(va k:Nat)(kind:Int)(p1:(Int×Tr)×Mmu):(List Int×Tr)×Mmu:=
 bif(cM n p1.2 s (dX va) kind).1.2.Jr !=0 then(([],(cM n p1.2 s (dX va) kind).1.2),(cM n p1.2 s (dX va) kind).2)
 else fL p1.1.1 (cM n p1.2 s (dX va) kind).1.1 va k (cM n p1.2 s (dX va) kind).1.2 (cM n p1.2 s (dX va) kind).2
def Bp(n:Nat)(s:Sp)(va k:Nat)(kind:Int)(p1:(Int×Tr)×Mmu):(List Int×Tr)×Mmu:=
 bif p1.1.2.Jr !=0 then(([],p1.1.2),p1.2)else
 bif decide (((64 - va%64:Nat):Int)<(k:Int))then Bo n s va k kind p1 else fL p1.1.1 0 va k p1.1.2 p1.2
def eM(n:Nat)(U:Mmu)(s:Sp)(va k:Nat)(kind:Int):(List Int×Tr)×Mmu:=Bp n s va k kind (cM n U s va kind)
theorem zf{n:Nat}{a b:Int}{va k:Nat}(hn:n≤64)(ha:0≤a)(ha1:a<((n*64:Nat):Int))(hm:a%64=((va%64:Nat):Int))(hb:((64 - va%64:Nat):Int)<(k:Int)→0≤b∧b<((n*64:Nat):Int)∧b%64=0)(hk:k≤4):∀x,x∈kS a b va k→0≤x∧x<((n*64:Nat):Int):=by
 intro x hx;unfold kS at hx;obtain⟨j,hj,rfl⟩:=bh.1 hx;rw[List.mem_range]at hj;unfold kA;cases hc:decide (j<64 - va%64)with
 |true=>
  simp only[ac];have:=of_decide_eq_true hc;rw[aE];omega
 |false=>
  simp only[aa];have h1:=of_decide_eq_false hc;obtain⟨b0,b1,b2⟩:=hb Wq1;rw[aE];omega
theorem yM{a:Int}(h:qb a=false){n:Nat}{va:Nat}(hp:FM n va a):a<((n*64:Nat):Int):=by
 rcases hp.r with h1|h1
 ·exact h1
 rw[h]at h1;cases h1
theorem vV{n:Nat}{U:Mmu}{s:Sp}{va k:Nat}(hn:n≤64)(hva:va≤4294967295){kind:Int}(hk:k≤4):∀x,x∈(eM n U s va k kind).1.1→0≤x∧x<((n*64:Nat):Int):=by
 obtain⟨_,h1⟩:=jb n U s va hva kind;unfold eM Bp;cases hc:((cM n U s va kind).1.2.Jr !=0)with
 |true=>intro x hx;cases hx
 |false=>
  simp only[aa];have p1:=h1 (by simpa using hc);cases hl:decide (((64 - va%64:Nat):Int)<(k:Int))with
  |true=>
   simp only[ac];unfold Bo;obtain⟨_,h2⟩:=jb n (cM n U s va kind).2 s (dX va) (k8 va) kind;cases hc2:((cM n (cM n U s va kind).2 s (dX va) kind).1.2.Jr !=0)with
   |true=>intro x hx;cases hx
   |false=>
    simp only[aa];have p2:=h2 (by simpa using hc2);unfold fL;cases d1:qb (cM n U s va kind).1.1 with
    |true=>intro x hx;cases hx
    |false=>
     simp only[aa];rw[hl];simp only[Bool.true_and];cases d2:qb (cM n (cM n U s va kind).2 s (dX va) kind).1.1 with
     |true=>intro x hx;cases hx
     |false=>
      simp only[aa];exact zf hn p1.u.1 (yM d1 p1) p1.m (fun _=>⟨p2.u.1,yM d2 p2,by have h3:=p2.m;rw[wA]at h3;exact h3⟩) hk
  |false=>
   simp only[aa];unfold fL;cases d1:qb (cM n U s va kind).1.1 with
   |true=>intro x hx;cases hx
   |false=>
    simp only[aa];rw[hl];simp only[Bool.false_and,aa];exact zf hn p1.u.1 (yM d1 p1) p1.m (fun h=>absurd h (of_decide_eq_false hl)) hk
theorem oW{n:Nat}{U:Mmu}{s:Sp}{va k:Nat}{kind:Int}:(eM n U s va k kind).1.1.length≤k:=by
 unfold eM Bp Bo fL
 repeat' (first|(simp only[ao];omega)|(rw[vW];exact aN _)|(rw[Bool.cond_eq_ite];split))
def gg(d:List Int):List Int→Int
 |[]=>0
 |a::l=>gB d a.toNat+256*gg d l
theorem lU{d:List Int}(h:u8s d):∀l:List Int,0≤gg d l∧gg d l<256^l.length
 |[]=>by simp[gg]
 |a::l=>by
  have h1:=jQ h a.toNat;have h2:=lU h l;simp only[gg,aj,Int.pow_succ];omega
theorem uV{d:List Int}(h:u8s d){l:List Int}(hl:l.length≤4){j:Nat}(hj:j<l.length):bits .or .u32 (IntKind.u32.wrap (gg d (l.drop (j+1))*2^(min (8:Int).toNat IntKind.u32.bits))) (gB d (l[j]'hj).toNat)=gg d (l.drop j):=by
 have h1:=lU h (l.drop (j+1));have h2:=jQ h (l[j]'hj).toNat;have h3:(l.drop (j+1)).length≤3:=by rw[bn];omega
 rw[show l.drop j=l[j]'hj::l.drop (j+1)from List.drop_eq_getElem_cons hj];simp only[gg];generalize gg d (l.drop (j+1))=v at h1;generalize (l.drop (j+1)).length=m at h1 h3;have hv:0≤v∧v<16777216:=by
  obtain rfl|rfl|rfl|rfl:m=0∨m=1∨m=2∨m=3:=by omega
  all_goals (simp at h1;omega)
 have e1:(2:Int)^(min (8:Int).toNat IntKind.u32.bits)=256:=rfl;rw[e1,u32_wrap_id _ Wq1 Wq1,bits_join .u32 32 Wq5 wraps_u32 8 (v*256) _ Wq1 Wq1 Wq1 Wq1 Wq1 Wq1];omega
def JS(M:Mem)(l:List Int)(v:Int):Nat→Mem
 |0=>M
 |k+1=>(JS M l v k).put ((l.getD k 0).toNat) (qK v k)
def ov(n:Nat)(U:Mmu)(s:Sp)(va k:Nat):(Int×Tr)×Mmu:=
 ((gg (eM n U s va k 2).2.m.data (eM n U s va k 2).1.1,(eM n U s va k 2).1.2),(eM n U s va k 2).2)
def m7(n:Nat)(U:Mmu)(s:Sp)(va k:Nat)(v:Int):Tr×Mmu:=
 ((eM n U s va k 3).1.2,⟨JS (eM n U s va k 3).2.m (eM n U s va k 3).1.1 v (eM n U s va k 3).1.1.length,(eM n U s va k 3).2.t⟩)
theorem xR(v:Int){k:Nat}(hk:k<4):IntKind.u8.wrap (v.fdiv (2^(min (IntKind.i64.wrap (8*(k:Int))).toNat IntKind.u32.bits)))=qK v k:=by
 rw[←vL v hk];obtain rfl|rfl|rfl|rfl:k=0∨k=1∨k=2∨k=3:=by omega
 all_goals rfl
end Go.Ink
namespace Go.Proofs.YtakodpimdalajaaGreatDoor
open Go.RowKit Go.Ink Go.Proofs.Tryz
attribute [local irreducible] OpY bP
theorem nQ(bu bb:Nat)(L:fa)(U:Mmu)(hT:U.t.length=16)(s:Sp)(hr:s.root≤4294967295)(va:Nat)(hva:va≤4294967295)(kind:Int)(w:World)(hi:Inv w (bK (uF bu bb L U)) (uF bu bb L U) w):
  Ctr prog 92 [.pointer (some ⟨bu,0,none⟩),s.v,.int .u32 va,.int .i64 kind] w (uF bu bb L U) (fun v cs=>v= .tuple #[.int .u32 (cM L.n U s va kind).1.1,(cM L.n U s va kind).1.2.v]∧cs=uF bu bb L (cM L.n U s va kind).2):=by
 obtain⟨fk,hfk⟩:=Zgn (fault kind);obtain⟨td,htd⟩:=Zgn (cZ L.n U s va kind);have HF:=z7 kind;have HT:=CQ bu bb L U hT s hr va hva kind;unfold cM;rw[hfk]at HF⊢;rw[htd]at HT⊢;obtain⟨⟨p,tr⟩,U'⟩:=td;simp only at HT⊢;refine bL func92 rfl ntmps92 rfl hi ?_;refine Z_2 ?_;refine ZO fun b5=>?_;refine ZA ?_;refine ZN fun b9=>?_
 refine Z_6 ?_;refine ZN fun b10=>?_
 refine ZM ?_;refine Z_6 ?_;refine ZSe (fun w hi=>HF w) ?_;refine Z_3 ?_;refine ZW ?_ ?_<;>intro hc2
 ·rw[hc2];simp only[ac];refine Zs (bR ⟨fun j=>List.elem j [2],[]⟩ Zk ?_);refine ZI 0 ?_;refine ZE 1 ?_;refine ce 2 Zk ?_;refine ZR ?_;refine dr ?_;refine Z_3 ?_;refine nj (cs':=[row _ _ _,exC _ _ _ _,row _ _ _]) (.inl rfl) Zu rfl rfl rfl Zh Zrf Zrf ?_;exact df
 rw[hc2];simp only[aa];refine Z_8 ?_;refine ZcM (uF bu bb L U) (fun w hi hin=>HT w hin) ?_;refine Z_3 ?_;refine ZN fun b12=>?_
 refine ZA ?_;refine dD (bV (vs:=tr.cells) Zrf rfl rfl (jp rfl) Za (by exact rfl)) ?_;rintro _ _ ⟨rfl,rfl⟩;refine dS ?_;refine ZW ?_ ?_<;>intro hc5
 ·rw[hc5];simp only[ac];refine Zs (bR ⟨fun j=>List.elem j [2],[]⟩ Zk ?_);refine ZI 0 ?_;refine ZE 1 ?_;refine ce 2 Zk ?_;refine ZR ?_;refine dr ?_;refine Z_3 ?_;refine nj (cs':=[row _ _ _,exC _ _ _ _,row _ _ _]) (.inl rfl) Zu rfl rfl rfl Zh Zrf Zrf ?_;exact df
 rw[hc5];simp only[aa];refine dS ?_;refine ZSe (fun w hi=>kU L U'.m w (hi.get Zh)) ?_;refine Z_6 ?_;refine dE (dU rfl rfl) (.cons (dH rfl) .nil) (fun _ _=>rfl) (fun hg w hi=>sd p w) rfl ?_;refine Z_4 ?_;refine ZW ?_ ?_<;>intro hc7
 ·rw[hc7];simp only[ac];refine Zs (bR ⟨fun j=>List.elem j [3],[]⟩ Zk ?_);refine ZE 0 ?_;refine ZI 1 ?_;refine ZE 2 ?_;refine ce 3 Zk ?_;refine ZR ?_;refine dr ?_;refine Z_3 ?_;refine nj (cs':=[row _ _ _,exC _ _ _ _,row _ _ _]) (.inl rfl) Zu rfl rfl rfl Zh Zrf Zrf ?_;exact df
 rw[hc7];simp only[aa];refine Z_3 ?_;refine bR ⟨fun j=>List.elem j [2],[]⟩ Zk ?_;refine ZI 0 ?_;refine ZE 1 ?_;refine ce 2 Zk ?_;refine ZR ?_;refine dr ?_;refine Z_2 ?_;refine nj (cs':=[row _ _ _,exC _ _ _ _,row _ _ _]) (.inl rfl) Zu rfl rfl rfl Zh Zrf Zrf ?_;exact df
theorem Di(bu bb:Nat)(L:fa)(U:Mmu)(hT:U.t.length=16)(s:Sp)(hr:s.root≤4294967295)(va k:Nat)(hva:va≤4294967295)(hk1:1≤k)(hk4:k≤4)(kind:Int)(w:World)(hi:Inv w (bK (uF bu bb L U)) (uF bu bb L U) w):
  Ctr prog 275 [.pointer (some ⟨bu,0,none⟩),s.v,.int .u32 va,.int .i64 k,.int .i64 kind] w (uF bu bb L U) (fun v cs=>∃A c,v= .tuple #[.slice A (eM L.n U s va k kind).1.1.length c,(eM L.n U s va k kind).1.2.v]∧cs=uF bu bb L (eM L.n U s va k kind).2++[sl .u32 22 A (eM L.n U s va k kind).1.1.length c (eM L.n U s va k kind).1.1]):=by
 have HP1:=nQ bu bb L U hT s hr va hva kind;have hl1:=rj L.n U s va kind;obtain⟨p1,hp1⟩:=Zgn (cM L.n U s va kind);unfold eM;rw[hp1]at HP1 hl1⊢;rw[hT]at hl1;have HP2:=nQ bu bb L p1.2 hl1 s hr (dX va) (k8 va) kind;obtain⟨p2,hp2⟩:=Zgn (cM L.n p1.2 s (dX va) kind);unfold Bp Bo;rw[hp2]at HP2⊢;obtain⟨⟨a1,tr1⟩,U1⟩:=p1;obtain⟨⟨a2,tr2⟩,U2⟩:=p2;simp only at HP1 HP2⊢;refine bL func275 rfl ntmps275 rfl hi ?_;refine Z_2 ?_;refine ZO fun b6=>?_;refine ZA ?_;refine ZN fun b11=>?_
 refine jA ?_;refine dw rfl ((by rw[az (show¬(k:Int)<1 by omega),az (show¬(4:Int)<k by omega)];rfl)) ?_;refine Z_8 ?_;refine ZcM (uF bu bb L U) (fun w hi hin=>HP1 w hin) ?_;refine Z_3 ?_;refine ZN fun b13=>?_
 refine ZA ?_;refine dD (bV (vs:=tr1.cells) Zrf rfl rfl (jp rfl) Za (by exact rfl)) ?_;rintro _ _ ⟨rfl,rfl⟩;refine dS ?_;refine ZW ?_ ?_<;>intro hc4
 ·rw[hc4];simp only[ac];refine Zs (bR ⟨fun j=>List.elem j [2],[]⟩ Zk ?_);refine CJ 22 1 ?_;refine ZI 0 ?_;refine ZE 1 ?_;refine ce 2 Zk ?_;refine ZR ?_;refine dr ?_;refine Z_3 ?_;refine nj (cs':=[row _ _ _,exC _ _ _ _,row _ _ _,slv _ _ _ _ _ _]) (.inl rfl) Zu rfl rfl rfl Zh Zrf Zrf ?_;exact⟨_,_,rfl,rfl⟩
 rw[hc4];simp only[aa];refine Z_5 ?_;refine Zy (gy (Zv rfl) (Zv rfl) Wq1 (show _=((va%64:Nat):Int)from by rw[aF Wq1];omega)) ?_;refine Zy (bW rfl rfl Zv0 Zl) ?_;refine Zy (dY (Zv rfl) (Zv rfl) (show IntKind.i64.wrap _=((64 - va%64:Nat):Int) by rw[IntWalk.i64_in _ ⟨by omega,by omega⟩];omega)) ?_;refine Z_7 ?_;refine Zy (gy (Zv rfl) (Zv rfl) Wq1 (show _=((va%64:Nat):Int)from by rw[aF Wq1];omega)) ?_;refine Zy (dY Zv0 Zv0 rfl) ?_;refine Zy (cX (Zv rfl) (Zv rfl) (show IntKind.u32.wrap (IntKind.u32.wrap _+64)=((dX va:Nat):Int) by rw[aE,aE];unfold dX;omega)) ?_;refine Z_4 ?_;refine cW (fun q:Int×Mmu×Tr=>[(2,.int .u32 va),(3,.int .i64 k),(11,.pointer (some ⟨b11,0,none⟩)),(12,.int .u32 a1),(13,.pointer (some ⟨b13,0,none⟩)),(14,.int .i64 ((64 - va%64:Nat):Int)),(15,.int .u32 (dX va:Nat)),(16,.int .u32 q.1)]) (fun q=>uF bu bb L q.2.1++[trC b11 Tr.none,trC b13 q.2.2]) (fun q=>(bif decide (((64 - va%64:Nat):Int)<(k:Int))then bif tr2.Jr !=0 then((([]:List Int),tr2),U2)else fL a1 a2 va k tr2 U2 else fL a1 0 va k tr1 U1)=fL a1 q.1 va k q.2.2 q.2.1) ?_ ?_
 ·refine Z_7 ?_;refine ZW ?_ ?_<;>intro hc8
  ·have hsm:(bif decide (((64 - va%64:Nat):Int)<(k:Int))then bif tr2.Jr !=0 then((([]:List Int),tr2),U2)else fL a1 a2 va k tr2 U2 else fL a1 0 va k tr1 U1)=bif tr2.Jr !=0 then((([]:List Int),tr2),U2)else fL a1 a2 va k tr2 U2:=by rw[hc8];rfl
   refine Z_6 ?_;refine ZcM (uF bu bb L U1) (fun w hi hin=>HP2 w hin) ?_;refine Z_4 ?_;refine dD (bV (vs:=tr2.cells) Zrf rfl rfl (jp rfl) Za (by exact rfl)) ?_;rintro _ _ ⟨rfl,rfl⟩;refine Z_9 ?_;refine ZW ?_ ?_<;>intro hc10
   ·rw[hsm,hc10];simp only[ac];refine Zs (bR ⟨fun j=>List.elem j [2],[]⟩ Zk ?_);refine CJ 22 1 ?_;refine ZI 0 ?_;refine ZE 1 ?_;refine ce 2 Zk ?_;refine ZR ?_;refine dr ?_;refine Z_3 ?_;refine nj (cs':=[row _ _ _,exC _ _ _ _,row _ _ _,slv _ _ _ _ _ _]) (.inl rfl) Zu rfl rfl rfl Zh Zrf Zrf ?_;exact⟨_,_,rfl,rfl⟩
   refine Zc ?_;refine bY ((a2,U2,tr2)) ?_ ?_ ?_
   ·exact hsm.trans (by rw[hc10];rfl)
   ·exact Zwk
   exact Zj
  have hsm:(bif decide (((64 - va%64:Nat):Int)<(k:Int))then bif tr2.Jr !=0 then((([]:List Int),tr2),U2)else fL a1 a2 va k tr2 U2 else fL a1 0 va k tr1 U1)=fL a1 0 va k tr1 U1:=by rw[hc8];rfl
  refine Zc ?_;refine bY ((0,U1,tr1)) ?_ ?_ ?_
  ·exact hsm
  ·exact Zwk
  exact Zj
 rintro⟨a2',U',tr'⟩ hq;dsimp only at hq;rw[hq];dsimp only;unfold fL;refine Z_5 ?_;refine ZSe (fun w hi=>sd a1 w) ?_;refine Z_3 ?_;refine ZW ?_ ?_<;>intro hc12
 ·rw[hc12];simp only[ac];refine Z_2 ?_;refine dy 22 1 ?_;refine Z_3 ?_;refine ZM ?_;refine Z_5 ?_;refine nj (cs':=[row _ _ _,exC _ _ _ _,row _ _ _,slv _ _ _ _ _ _]) (.inl rfl) Zu rfl rfl rfl Zh Zrf Zrf ?_;exact⟨_,_,rfl,rfl⟩
 rw[hc12];simp only[aa];refine Z_7 ?_;refine dE (bZ rfl rfl) (.cons (dH rfl) .nil) (fun _ _=>rfl) (fun hg w hi=>sd a2' w) rfl ?_;refine Z_4 ?_;refine ZW ?_ ?_<;>intro hc14
 ·rw[hc14];simp only[ac];refine Z_2 ?_;refine dy 22 1 ?_;refine Z_3 ?_;refine ZM ?_;refine Z_5 ?_;refine nj (cs':=[row _ _ _,exC _ _ _ _,row _ _ _,slv _ _ _ _ _ _]) (.inl rfl) Zu rfl rfl rfl Zh Zrf Zrf ?_;exact⟨_,_,rfl,rfl⟩
 rw[hc14];simp only[aa];refine Z_5 ?_;refine dy 22 1 ?_;refine fF ?_;refine cw (fun q:Nat×Option Addr×Nat=>[(11,.pointer (some ⟨b11,0,none⟩)),(12,.int .u32 a1),(13,.pointer (some ⟨b13,0,none⟩)),(14,.int .i64 ((64 - va%64:Nat):Int)),(16,.int .u32 a2'),(17,.slice q.2.1 (kS a1 a2' va q.1).length q.2.2),(78,.int .i64 k),(79,.int .i64 (q.1:Int))]) (fun q=>uF bu bb L U'++[trC b11 Tr.none,trC b13 tr',sl .u32 22 q.2.1 (kS a1 a2' va q.1).length q.2.2 (kS a1 a2' va q.1)]) (fun q=>q.1≤k) (fun q=>k - q.1) ((0,none,0)) ?_ ?_ ?_ ?_
 ·exact au _
 ·exact Zwk
 ·exact Zu
 rintro⟨j,A1,c1⟩ hj;simp only at hj;dsimp only;refine Z_6 ?_;refine ZW ?_ ?_<;>intro hc18
 ·simp only[ak]at hc18;have hle:=vW a1 a2' va j;refine vz ?_;refine ZW ?_ ?_<;>intro hc20
  ·simp only[ak]at hc20;have he:kA a1 a2' va j=IntKind.u32.wrap (a1+(j:Int)):=by(unfold kA;rw[ay Wq1];rfl)
   refine Z_4 ?_;refine Zy (bW rfl rfl Zv0 rfl) ?_;refine Zy (cX (Zv rfl) (Zv rfl) (show IntKind.u32.wrap (a1+IntKind.u32.wrap (j:Int))=kA a1 a2' va j by rw[he,u32_wrap_id (j:Int) Wq1 Wq1])) ?_;refine ku ?_;rintro _ _ ⟨b90,rfl,rfl⟩;refine fb (cC (e:=22) (sz:=1) (bytes:=4) rfl rfl Za rfl rfl (fun w hi=>hi.rd (show Has _ (slv 22 1 (some ⟨b90,0,none⟩) 1 1 [.int .u32 (kA a1 a2' va j)])from Zh)) (jp rfl) g9 Wq1) rfl ?_;rintro _ _ ⟨A2,c2,rfl,rfl⟩;rw[show(kS a1 a2' va j).length+1=(kS a1 a2' va (j+1)).length by(rw[mG];simp),show ints .u32 (kS a1 a2' va j)++[Value.int .u32 (kA a1 a2' va j)]=ints .u32 (kS a1 a2' va (j+1)) by(rw[mG];exact cj _ [_])];refine Z_5 ?_;refine Wq8 ?_;refine dM ((j+1,A2,c2)) ?_ ?_ ?_
   ·exact⟨by show j+1≤k;omega,by show k - (j+1)<k - j;omega⟩
   ·exact Zwk
   exact Zu
  simp only[ah]at hc20;have he:kA a1 a2' va j=IntKind.u32.wrap (a2'+((j - (64 - va%64):Nat):Int)):=by(unfold kA;rw[az Wq1];rfl)
  refine Z_5 ?_;refine Zy (dY (Zv rfl) (Zv rfl) (show IntKind.i64.wrap ((j:Int) - ((64 - va%64:Nat):Int))=((j - (64 - va%64):Nat):Int) by rw[IntWalk.i64_in _ ⟨by omega,by omega⟩];omega)) ?_;refine Zy (bW rfl rfl Zv0 rfl) ?_;refine Zy (cX (Zv rfl) (Zv rfl) (show IntKind.u32.wrap (a2'+IntKind.u32.wrap ((j - (64 - va%64):Nat):Int))=kA a1 a2' va j by rw[he,u32_wrap_id (((j - (64 - va%64):Nat):Int)) Wq1 Wq1])) ?_;refine ku ?_;rintro _ _ ⟨b99,rfl,rfl⟩;refine fb (cC (e:=22) (sz:=1) (bytes:=4) rfl rfl Za rfl rfl (fun w hi=>hi.rd (show Has _ (slv 22 1 (some ⟨b99,0,none⟩) 1 1 [.int .u32 (kA a1 a2' va j)])from Zh)) (jp rfl) g9 Wq1) rfl ?_;rintro _ _ ⟨A2,c2,rfl,rfl⟩;rw[show(kS a1 a2' va j).length+1=(kS a1 a2' va (j+1)).length by(rw[mG];simp),show ints .u32 (kS a1 a2' va j)++[Value.int .u32 (kA a1 a2' va j)]=ints .u32 (kS a1 a2' va (j+1)) by(rw[mG];exact cj _ [_])];refine Z_5 ?_;refine Wq8 ?_;refine dM ((j+1,A2,c2)) ?_ ?_ ?_
  ·exact⟨by show j+1≤k;omega,by show k - (j+1)<k - j;omega⟩
  ·exact Zwk
  exact Zu
 simp only[ah]at hc18;obtain rfl:j=k:=by omega
 refine Z_6 ?_;refine bR ⟨fun j=>List.elem j [3],[]⟩ Zk ?_;refine ZE 0 ?_;refine ZI 1 ?_;refine ZE 2 ?_;refine ce 3 Zk ?_;refine ZR ?_;refine dr ?_;refine Z_2 ?_;refine nj (cs':=[row _ _ _,exC _ _ _ _,row _ _ _,slv _ _ _ _ _ _]) (.inl rfl) Zu rfl rfl rfl Zh Zrf Zrf ?_;exact⟨_,_,rfl,rfl⟩
theorem F7(bu bb:Nat)(L:fa)(U:Mmu)(hT:U.t.length=16)(s:Sp)(hr:s.root≤4294967295)(va k:Nat)(hva:va≤4294967295)(hk1:1≤k)(hk4:k≤4)(w:World)(hi:Inv w (bK (uF bu bb L U)) (uF bu bb L U) w):
  Ctr prog 251 [.pointer (some ⟨bu,0,none⟩),s.v,.int .u32 va,.int .i64 k] w (uF bu bb L U) (fun v cs=>v= .tuple #[.int .u32 (ov L.n U s va k).1.1,(ov L.n U s va k).1.2.v]∧cs=uF bu bb L (ov L.n U s va k).2):=by
 obtain⟨n1,n64,_⟩:=ls (hi.ok (ek L U.m) cJ);have HS:=Di bu bb L U hT s hr va k hva hk1 hk4 2;have hin0:=vV (n:=L.n) (U:=U) (s:=s) (va:=va) (k:=k) n64 hva (kind:=2) hk4;have hlen0:=oW (n:=L.n) (U:=U) (s:=s) (va:=va) (k:=k) (kind:=2);unfold ov;obtain⟨sp,hsp⟩:=Zgn (eM L.n U s va k 2);rw[hsp]at HS hin0 hlen0⊢;obtain⟨⟨l,tr⟩,U'⟩:=sp;simp only at HS hin0 hlen0⊢;refine bL func251 rfl ntmps251 rfl hi ?_;refine Z_2 ?_;refine ZO fun b5=>?_;refine ZA ?_;refine ZN fun b9=>?_
 refine Z_8 ?_;refine ZcL (uF bu bb L U) (fun w hi hin=>HS w hin) ?_;rintro _ _ ⟨_,⟨A1,c1,rfl,rfl⟩,rfl⟩;refine Z_3 ?_;refine ZN fun b11=>?_
 refine ZA ?_;refine dD (bV (vs:=tr.cells) Zrf rfl rfl (jp rfl) Za (by exact rfl)) ?_;rintro _ _ ⟨rfl,rfl⟩;refine Z_4 ?_;refine fq (fun w hi=>ls (hi.get (show Has _ (ek L U'.m)from Zh))) (fun hmm=>?_);obtain⟨_,_,hdl,hdb,_⟩:=hmm;refine Z_6 ?_;have e0:gg U'.m.data (l.drop l.length)=0:=by(rw[List.drop_length];rfl)
 refine Z_2 ?_;refine Zy (dY Zv0 Zv0 Zl) ?_;refine Z_4 ?_;refine cw (fun j:Nat=>[(0,.pointer (some ⟨bu,0,none⟩)),(9,.pointer (some ⟨b9,0,none⟩)),(10,.slice A1 l.length c1),(11,.pointer (some ⟨b11,0,none⟩)),(12,.int .u32 (gg U'.m.data (l.drop j))),(13,.int .i64 ((j:Int) - 1))]) (fun _=>uF bu bb L U'++[sl .u32 22 A1 l.length c1 l,trC b9 Tr.none,trC b11 tr]) (fun j=>j≤l.length) (fun j=>j) (l.length) ?_ ?_ ?_ ?_
 ·exact aN _
 ·exact Zwk
 ·exact Zu
 rintro j hj;refine Z_7 ?_;refine ZW ?_ ?_<;>intro hc4
 ·simp only[ak]at hc4;obtain⟨i,rfl⟩:∃i,j=i+1:=⟨j - 1,by omega⟩;have hil:i<l.length:=by omega
  have hrange:=hin0 _ (List.getElem_mem hil);refine xP (fun w hi=>fM (hi.get (show Has _ (sl .u32 22 A1 l.length c1 l)from Zh)) Wq1) ?_;rintro⟨ba,rfl⟩;obtain⟨an,han⟩:=aq hrange.1;refine Z_5 ?_;refine bR ⟨fun j=>List.elem j [],[]⟩ Zk ?_;refine gn ?_;refine ZFe 2 0 ?_;refine ZG 3 ?_;refine ZE 4 ?_;refine ZE 5 ?_;refine cD 6 rfl Zk Zk Zk (cu (j:=i) (sz:=1) (r:=i) rfl Zrf (Zv rfl) (Zv rfl) Wq4 Wq4 Wq1) rfl ?_;refine dm 7 rfl Zk Zk Zk Zk (bO Zrf (Zv rfl)) (du Zh (show(ints .u32 l)[i]? =some (.int .u32 (an:Int))from by rw[←han];exact mR hil)) rfl ?_;refine ce 8 Zk ?_;refine ZT (fun w hi=>GB L U'.m an Wq1 w (hi.get Zh)) ?_;rintro _ _ ⟨_,⟨rfl,rfl⟩,rfl⟩;refine ZE 9 ?_;refine ZE 10 ?_;refine ZE 11 ?_;refine ZE 12 ?_;refine ZE 13 ?_;refine dr ?_;refine Z_2 ?_;have hg:=jQ hdb an;have hst:=uV hdb (show l.length≤4 by omega) hil;rw[han]at hst;refine ZA ?_;refine Zy (ux (Zv rfl) (Zv rfl) Wq1 rfl) ?_;refine ZA ?_;refine Zy (bW rfl rfl (Zv rfl) (by first|exact IntWalk.u32_in _ ⟨by omega,by omega⟩|exact rfl)) ?_;refine Zy (AN Zv0 Zv0 hst) ?_;refine Z_6 ?_;refine Zy (dY Zv0 Zv0 Zl) ?_;refine Z_2 ?_;refine bY (i) ?_ ?_ ?_
  ·exact⟨by omega,by omega⟩
  ·exact Zwk
  exact Zj
 simp only[ah]at hc4;obtain rfl:j=0:=by omega
 rw[List.drop_zero];refine Z_6 ?_;refine bR ⟨fun j=>List.elem j [3],[]⟩ Zk ?_;refine ZE 0 ?_;refine ZI 1 ?_;refine ZE 2 ?_;refine ce 3 Zk ?_;refine ZR ?_;refine dr ?_;refine Z_2 ?_;refine bN (uF bu bb L U'++[trC b9 tr]) Zj ?_;refine nj (cs':=[row _ _ _,exC _ _ _ _,row _ _ _]) (.inl rfl) Zu rfl rfl rfl Zh Zrf Zrf ?_;exact df
theorem CL(bu bb:Nat)(L:fa)(U:Mmu)(hT:U.t.length=16)(s:Sp)(hr:s.root≤4294967295)(va k:Nat)(v:Int)(hva:va≤4294967295)(hk1:1≤k)(hk4:k≤4)(w:World)(hi:Inv w (bK (uF bu bb L U)) (uF bu bb L U) w):
  Ctr prog 249 [.pointer (some ⟨bu,0,none⟩),s.v,.int .u32 va,.int .u32 v,.int .i64 k] w (uF bu bb L U) (fun x cs=>x=(m7 L.n U s va k v).1.v∧cs=uF bu bb L (m7 L.n U s va k v).2):=by
 obtain⟨n1,n64,_⟩:=ls (hi.ok (ek L U.m) cJ);have HS:=Di bu bb L U hT s hr va k hva hk1 hk4 3;have hin0:=vV (n:=L.n) (U:=U) (s:=s) (va:=va) (k:=k) n64 hva (kind:=3) hk4;have hlen0:=oW (n:=L.n) (U:=U) (s:=s) (va:=va) (k:=k) (kind:=3);unfold m7;obtain⟨sp,hsp⟩:=Zgn (eM L.n U s va k 3);rw[hsp]at HS hin0 hlen0⊢;obtain⟨⟨l,tr⟩,U'⟩:=sp;simp only at HS hin0 hlen0⊢;refine bL func249 rfl ntmps249 rfl hi ?_;refine Z_2 ?_;refine ZO fun b6=>?_;refine ZN fun b10=>?_
 refine Z_8 ?_;refine ZcL (uF bu bb L U) (fun w hi hin=>HS w hin) ?_;rintro _ _ ⟨_,⟨A1,c1,rfl,rfl⟩,rfl⟩;refine Z_3 ?_;refine ZN fun b12=>?_
 refine ZA ?_;refine dD (bV (vs:=tr.cells) Zrf rfl rfl (jp rfl) Za (by exact rfl)) ?_;rintro _ _ ⟨rfl,rfl⟩;refine fF ?_;refine cw (fun j:Nat=>[(0,.pointer (some ⟨bu,0,none⟩)),(3,.int .u32 v),(10,.pointer (some ⟨b10,0,none⟩)),(12,.pointer (some ⟨b12,0,none⟩)),(23,.slice A1 l.length c1),(24,.int .i64 l.length),(25,.int .i64 (j:Int))]) (fun j=>uF bu bb L ⟨JS U'.m l v j,U'.t⟩++[sl .u32 22 A1 l.length c1 l,trC b10 Tr.none,trC b12 tr]) (fun j=>j≤l.length) (fun j=>l.length - j) (0) ?_ ?_ ?_ ?_
 ·exact au _
 ·exact Zwk
 ·exact Zu
 rintro j hj;refine Z_6 ?_;refine ZW ?_ ?_<;>intro hc3
 ·simp only[ak]at hc3;have hil:j<l.length:=by omega
  have hrange:=hin0 _ (List.getElem_mem hil);refine xP (fun w hi=>fM (hi.get (show Has _ (sl .u32 22 A1 l.length c1 l)from Zh)) Wq1) ?_;rintro⟨ba,rfl⟩;obtain⟨an,han⟩:=aq hrange.1;have hgd:(l.getD j 0).toNat=an:=by(rw[aw,ai hil];simp only[Option.getD_some,han];omega)
  refine Z_7 ?_;refine Zy (cu (j:=j) (sz:=1) (r:=j) rfl Zrf (Zv rfl) (Zv rfl) Wq4 Wq4 Wq1) ?_;refine dL (bO Zrf (Zv rfl)) (du Zh (show(ints .u32 l)[j]? =some (.int .u32 (an:Int))from by rw[←han];exact mR hil)) rfl ?_;refine Z_4 ?_;refine bR ⟨fun j=>List.elem j [10],[]⟩ Zk ?_;refine gn ?_;refine ZFe 2 0 ?_;refine ZG 3 ?_;refine ZE 4 ?_;refine ZE 5 ?_;refine ZE 6 ?_;refine cD 7 rfl Zk Zk Zk (i4 Zv0 Zv0 rfl) rfl ?_;refine cD 8 rfl Zk Zk Zk (j0 (Zv rfl) (Zv rfl) (by rw[IntWalk.i64_in _ ⟨by omega,by omega⟩];omega) rfl) rfl ?_;refine cD 9 rfl Zk Zk Zk (bW rfl rfl (Zv rfl) (xR v (show j<4 by omega))) rfl ?_;refine ce 10 Zk ?_;refine ZcA ([ek L (JS U'.m l v j)]) (fun w hi hin=>uI L (JS U'.m l v j) an Wq1 (qK v j) (nK v j) w hin) ?_;rintro _ _ ⟨_,⟨rfl,rfl⟩,rfl⟩;refine dr ?_;refine Z_3 ?_;refine Wq8 ?_;refine bY (j+1) ?_ ?_ ?_
  ·exact⟨by omega,by omega⟩
  ·exact Zwk
  exact(show xD _ _ from by rw[show JS U'.m l v (j+1)=(JS U'.m l v j).put an (qK v j) by rw[JS,hgd]];exact Zj)
 simp only[ah]at hc3;obtain rfl:j=l.length:=by omega
 refine Z_8 ?_;refine ZM ?_;refine Z_3 ?_;refine bN (uF bu bb L ⟨JS U'.m l v l.length,U'.t⟩++[trC b10 tr]) Zj ?_;refine lP (cs':=[row _ _ _,exC _ _ _ _,row _ _ _]) (.inl rfl) Zu rfl rfl Zh Zrf Zrf ?_;exact df
end Go.Proofs.YtakodpimdalajaaGreatDoor
