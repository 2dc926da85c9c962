/- Lemmas. -/
import Derived.Test.YtakodpimdalajaaGreatDoorQaa
import Derived.Test.YtakodpimdalajaaGreatDoorQab
import Derived.Test.YtakodpimdalajaaGreatDoorQac
import Derived.Test.YtakodpimdalajaaGreatDoorProg
import Derived.Lib.EndianBits
set_option linter.unusedSimpArgs false
set_option linter.unusedVariables false
set_option maxRecDepth 100000
set_option maxHeartbeats 4000000
namespace Go.Ink
open Go.RowKit
def lf(l:List Bool):List Value:=l.map Value.bool
theorem jR(l:List Bool):(lf l).length=l.length:=by simp[lf]
theorem zo{l:List Bool}{j:Nat}{b:Bool}(h:l[j]? =some b):(lf l)[j]? =some (.bool b):=by simp[lf,h]
theorem Ef(l:List Bool)(j:Nat)(b:Bool):(lf l).set j (.bool b)=lf (l.set j b):=by simp[lf,List.map_set]
theorem fX{k:IntKind}(xs:List Int)(j:Nat)(v:Int):(ints k xs).set j (.int k v)=ints k (xs.set j v):=by simp[ints,List.map_set]
def dp(B ow pr:List Int):List Value:=ints .u8 B++(ints .i64 ow++ints .i64 pr)
structure fB(B ow pr:List Int):Prop where
 b:B.length=16384
 ow:ow.length=256
 pr:pr.length=4
section
variable {B ow pr:List Int}
theorem gz(h:fB B ow pr):(dp B ow pr).length=16644:=by
 simp[dp,cO,h.b,h.ow,h.pr]
theorem pool_B{i:Nat}{v:Int}(h:B[i]? =some v):(dp B ow pr)[i]? =some (.int .u8 v):=by
 have hi:=(au.1 h).1;unfold dp;rw[bD (by rw[cO];exact hi)];exact cZ h
theorem uz(hl:fB B ow pr){i:Nat}{v:Int}(h:ow[i]? =some v):(dp B ow pr)[16384+i]? =some (.int .i64 v):=by
 have hi:=(au.1 h).1;unfold dp;rw[bF (by rw[cO,hl.b];omega),cO,hl.b,show 16384+i - 16384=i by omega,bD (by rw[cO];exact hi)];exact cZ h
theorem Cr(hl:fB B ow pr){i:Nat}{v:Int}(h:pr[i]? =some v):(dp B ow pr)[16640+i]? =some (.int .i64 v):=by
 unfold dp;rw[bF (by rw[cO,hl.b];omega),cO,hl.b,bF (by rw[cO,hl.ow];omega),cO,hl.ow,show 16640+i - 16384 - 256=i by omega];exact cZ h
theorem Cq{i:Nat}(hi:i<B.length)(v:Int):(dp B ow pr).set i (.int .u8 v)=dp (B.set i v) ow pr:=by
 unfold dp;rw[List.set_append_left _ _ (by rw[cO];exact hi),fX]
theorem sW(hl:fB B ow pr){i:Nat}(hi:i<256)(v:Int):(dp B ow pr).set (16384+i) (.int .i64 v)=dp B (ow.set i v) pr:=by
 unfold dp;rw[List.set_append_right _ _ (by rw[cO,hl.b];omega),cO,hl.b,show 16384+i - 16384=i by omega,List.set_append_left _ _ (by rw[cO,hl.ow];exact hi),fX]
theorem sV(hl:fB B ow pr){i:Nat}(v:Int):(dp B ow pr).set (16640+i) (.int .i64 v)=dp B ow (pr.set i v):=by
 unfold dp;rw[List.set_append_right _ _ (by rw[cO,hl.b];omega),cO,hl.b,List.set_append_right _ _ (by rw[cO,hl.ow];omega),cO,hl.ow,show 16640+i - 16384 - 256=i by omega,fX]
def eM(B:List Int)(f:Nat):List Int:=B.take (f*64)++List.replicate 64 0++B.drop (f*64+64)
theorem Cp(hl:fB B ow pr){f:Nat}(hf:f<256):(dp B ow pr).take (f*64)++List.replicate 64 (Value.int .u8 0)++(dp B ow pr).drop (f*64+64)=dp (eM B f) ow pr:=by
 unfold dp eM;have h1:f*64≤(ints .u8 B).length:=by rw[cO,hl.b];omega
 have h2:f*64+64≤(ints .u8 B).length:=by rw[cO,hl.b];omega
 rw[List.take_append_of_le_length h1,List.drop_append_of_le_length h2,←aq _ _ (ints .i64 ow++ints .i64 pr)];congr 1;simp[ints,List.map_take,List.map_drop]
theorem tN(hB:B.length=16384){f:Nat}(hf:f<256):(eM B f).length=16384:=by
 simp only[eM,ae,aF,aM,bn,hB];omega
theorem vi(hB:B.length=16384){f j:Nat}(hf:f<256)(hj:j<64):(eM B f)[f*64+j]? =some 0:=by
 unfold eM;rw[bD (by simp[hB];omega),bF (by simp[hB];omega)];simp only[aF,hB];rw[show f*64+j - min (f*64) 16384=j by omega,List.getElem?_replicate,if_pos hj]
theorem tM(hB:B.length=16384){f i:Nat}(hf:f<256)(hi:i<f*64∨f*64+64≤i):(eM B f)[i]? =B[i]? :=by
 unfold eM;rcases hi with hi|hi
 ·rw[bD (by simp[hB];omega),bD (by simp[hB];omega),List.getElem?_take,if_pos hi]
 rw[bF (by simp[hB];omega),List.getElem?_drop];simp only[ae,aF,aM,hB];congr 1;omega
end
def gt(ow:List Int)(o:Int)(k:Nat):List Int:=((List.range k).filter (fun f=>ow[f]? ==some o)).map (fun f:Nat=>(f:Int))
theorem rp(ow:List Int)(o:Int)(k:Nat):gt ow o (k+1)=gt ow o k++(bif ow[k]? ==some o then[(k:Int)]else[]):=by
 unfold gt;rw[List.range_succ,List.filter_append,List.map_append];congr 1;cases h:(ow[k]? ==some o)<;>simp[h]
theorem Dv(ow:List Int)(o:Int)(k:Nat):(gt ow o k).length≤k:=by
 unfold gt;rw[List.length_map];exact a9 (List.length_filter_le _ _) (by simp)
end Go.Ink
namespace Go.Proofs.YtakodpimdalajaaGreatDoor
open Go.RowKit Go.Ink Go.Proofs.Tryz
attribute [local irreducible] OpY bU
abbrev eZ(bp:Nat)(B ow pr:List Int):bJ:=row bp (dp B ow pr) 133
theorem DH(n:Int)(w:World):Ctr prog 74 [.int .i64 n] w [] (fun v cs=>v= .bool (decide (0≤n)&&decide (n<4))∧cs=[]):=by
 refine bL func74 rfl ntmps74 rfl (Inv.start w) ?_;refine vg ?_;refine Zra ?_;exact⟨rfl,rfl⟩
theorem Gn(n:Int)(w:World):Ctr prog 155 [.int .i64 n] w [] (fun v cs=>v= .bool (decide (16≤n)&&decide (n<256))∧cs=[]):=by
 refine bL func155 rfl ntmps155 rfl (Inv.start w) ?_;refine vg ?_;refine Zra ?_;exact⟨rfl,rfl⟩
theorem FA(bp:Nat)(B ow pr:List Int)(hl:fB B ow pr)(f:Nat)(o:Int)(h1:16≤f)(h2:f<256)(h3:ow[f]? =some o)(h4:o≠ -1)(w:World)(hp:(eZ bp B ow pr).ok w):
  Ctr prog 204 [.pointer (some ⟨bp,0,none⟩),.int .i64 f] w [] (fun v cs=>v= .tuple #[.int .i64 o,.bool true]∧cs=[]):=by
 refine bL func204 rfl ntmps204 rfl (Inv.start w) ?_;refine eJ ?_;refine ZSe (fun w hi=>Gn f w) ?_;rw[aB (show(16:Int)≤f by omega),aB (show(f:Int)<256 by omega)];refine Z_5 ?_;refine ZFb 16384 ?_;refine Zyn rfl rfl (dw (j:=f) (sz:=1) (r:=16384+f) rfl Zrf (dQ rfl) (dQ rfl) (fun _=>by omega) (fun _=>by omega) (by omega)) ?_;refine kK (cD rfl rfl) (bO Zrf (dQ rfl)) (dL hp (uz hl h3)) rfl ?_;refine Z_4 ?_;refine bV rfl ((show(_||(o== -1))=false from by rw[beq_eq_false_iff_ne.2 h4];rfl)) ?_;refine Z_7 ?_;refine ZFa 16384 ?_;refine Zy (dw (j:=f) (sz:=1) (r:=16384+f) rfl Zrf (Zv rfl) (Zv rfl) (fun _=>by omega) (fun _=>by omega) (by omega)) ?_;refine dX (bO Zrf Zv0) (dL hp (uz hl h3)) rfl ?_;refine Z_5 ?_;refine ft (cs':=[]) (.inl rfl) Zu rfl rfl rfl ?_;exact⟨rfl,rfl⟩
theorem Du(bp:Nat)(B ow pr:List Int)(hl:fB B ow pr)(f a:Nat)(o:Int)(h1:16≤f)(h2:f<256)(h3:ow[f]? =some o)(h4:o≠ -1)(h5:a<64)(w:World)(hp:(eZ bp B ow pr).ok w):
  Ctr prog 147 [.pointer (some ⟨bp,0,none⟩),.int .i64 f,.int .i64 a] w [] (fun v cs=>v= .bool true∧cs=[]):=by
 refine bL func147 rfl ntmps147 rfl (Inv.start w) ?_;refine Z_9 ?_;refine ZSe (fun w hi=>FA bp B ow pr hl f o h1 h2 h3 h4 w (bJ.old hp hi)) ?_;refine mL ?_;refine Z_2 ?_;refine Zra ?_;rw[aB (show(0:Int)≤a by omega),aB (show(a:Int)<64 by omega)];exact⟨rfl,rfl⟩
theorem Fz(bp:Nat)(B ow pr:List Int)(hl:fB B ow pr)(f a:Nat)(o b:Int)(h1:16≤f)(h2:f<256)(h3:ow[f]? =some o)(h4:o≠ -1)(h5:a<64)(h6:B[f*64+a]? =some b)(w:World)(hp:(eZ bp B ow pr).ok w):
  Ctr prog 103 [.pointer (some ⟨bp,0,none⟩),.int .i64 f,.int .i64 a] w [] (fun v cs=>v= .tuple #[.int .u8 b,.bool true]∧cs=[]):=by
 refine bL func103 rfl ntmps103 rfl (Inv.start w) ?_;refine gQ ?_;refine ZSe (fun w hi=>Du bp B ow pr hl f a o h1 h2 h3 h4 h5 w (bJ.old hp hi)) ?_;refine Z_3 ?_;refine bV rfl (rfl) ?_;refine Z_9 ?_;refine Zy (dw (j:=f) (sz:=64) (r:=f*64) rfl Zrf (Zv rfl) (Zv rfl) (fun _=>by omega) (fun _=>by omega) (by omega)) ?_;refine Zy (dw (j:=a) (sz:=1) (r:=f*64+a) rfl Zrf (Zv rfl) (Zv rfl) (fun _=>by omega) (fun _=>by omega) (by omega)) ?_;refine dX (bO Zrf Zv0) (dL hp (pool_B h6)) rfl ?_;refine Z_5 ?_;refine ft (cs':=[]) (.inl rfl) Zu rfl rfl rfl ?_;exact⟨rfl,rfl⟩
theorem Ci(bp:Nat)(B ow pr:List Int)(hl:fB B ow pr)(f a:Nat)(o b:Int)(h1:16≤f)(h2:f<256)(h3:ow[f]? =some o)(h4:o≠ -1)(h5:a<64)(w:World)(hi:Inv w (bK [eZ bp B ow pr]) [eZ bp B ow pr] w):
  Ctr prog 157 [.pointer (some ⟨bp,0,none⟩),.int .i64 f,.int .i64 a,.int .u8 b] w [eZ bp B ow pr] (fun v cs=>v= .bool true∧cs=[eZ bp (B.set (f*64+a) b) ow pr]):=by
 have hb:=hl.b;refine bL func157 rfl ntmps157 rfl hi ?_;refine eu ?_;refine ZSe (fun w hi=>Du bp B ow pr hl f a o h1 h2 h3 h4 h5 w (hi.get Zh)) ?_;refine Z_3 ?_;refine bV rfl (rfl) ?_;refine eJ ?_;refine Zy (dw (j:=f) (sz:=64) (r:=f*64) rfl Zrf (Zv rfl) (Zv rfl) (fun _=>by omega) (fun _=>by omega) (by omega)) ?_;refine Zy (dw (j:=a) (sz:=1) (r:=f*64+a) rfl Zrf (Zv rfl) (Zv rfl) (fun _=>by omega) (fun _=>by omega) (by omega)) ?_;refine dy (dF Zrf rfl rfl rfl Za (by rw[gz hl];omega)) ?_;rintro _ _ ⟨rfl,rfl⟩;rw[Cq (by omega)];refine Z_8 ?_;refine Zrb ([row _ _ _]) ?_;exact⟨rfl,rfl⟩
theorem held_ok(bp:Nat)(B ow pr:List Int)(hl:fB B ow pr)(o:Nat)(ho:o<4)(w:World)(hp:(eZ bp B ow pr).ok w):
  Ctr prog 73 [.pointer (some ⟨bp,0,none⟩),.int .i64 o] w [] (fun v cs=>∃A c,v= .slice A (gt ow o 256).length c∧cs=[sl .i64 3 A (gt ow o 256).length c (gt ow o 256)]):=by
 refine bL func73 rfl ntmps73 rfl (Inv.start w) ?_;refine iG ?_;refine ZSe (fun w hi=>DH o w) ?_;rw[aB (show(0:Int)≤o by omega),aB (show(o:Int)<4 by omega)];refine Z_3 ?_;refine bV rfl (rfl) ?_;refine Z_5 ?_;refine dC 3 1 ?_;refine Z_4 ?_;refine cG (fun s:Nat×Option Addr×Nat=>[(0,.pointer (some ⟨bp,0,none⟩)),(1,.int .i64 o),(5,.slice s.2.1 (gt ow o s.1).length s.2.2),(11,.int .i64 s.1)]) (fun s=>[sl .i64 3 s.2.1 (gt ow o s.1).length s.2.2 (gt ow o s.1)]) (fun s=>s.1≤256) (fun s=>256 - s.1) ((0,none,0)) ?_ ?_ ?_ ?_
 ·exact ax _
 ·exact Zwk
 ·exact Zu
 rintro⟨k,A1,c1⟩ hk;simp only at hk;dsimp only;refine Z_6 ?_;refine ZW ?_ ?_<;>intro hc5
 ·simp only[ap]at hc5;have hkl:k<ow.length:=by(rw[hl.ow];omega)
  have hok:ow[k]? =some (ow[k]'hkl):=ao hkl;have hle:=Dv ow o k;refine qo ?_;refine ZFa 16384 ?_;refine Zy (dw (j:=k) (sz:=1) (r:=16384+k) rfl Zrf (Zv rfl) (Zv rfl) (fun _=>by omega) (fun _=>by omega) (by omega)) ?_;refine dX (bO Zrf Zv0) (dL hp (uz hl hok)) rfl ?_;refine Z_4 ?_;refine ZW ?_ ?_<;>intro hc7
  ·have he:gt ow o (k+1)=gt ow o k++[(k:Int)]:=by(rw[rp,hok];have h2:ow[k]'hkl=(o:Int):=(by simpa using hc7);rw[h2];simp)
   refine Z_3 ?_;refine dJ (bZ rfl rfl Zrf Zrf rfl rfl) rfl ?_;rintro _ _ ⟨b24,rfl,rfl⟩;refine dJ (cW (e:=3) (sz:=1) (bytes:=8) rfl rfl Za rfl rfl (fun w hi=>hi.rd Zh) (iE rfl) (by simp only[maxLen];omega) (by omega)) rfl ?_;rintro _ _ ⟨A2,c2,rfl,rfl⟩;rw[show(gt ow o k).length+1=(gt ow o (k+1)).length by(rw[he];simp),show ints .i64 (gt ow o k)++[Value.int .i64 (k:Int)]=ints .i64 (gt ow o (k+1)) by(rw[he];exact cH _ [_])];refine Z_5 ?_;refine Zy (cy Zv0 Zv0 Zl) ?_;refine Z_2 ?_;refine ez ((k+1,A2,c2)) ?_ ?_ ?_
   ·exact⟨by show k+1≤256;omega,by show 256 - (k+1)<256 - k;omega⟩
   ·exact Zwk
   exact Zu
  have he:gt ow o (k+1)=gt ow o k:=by(rw[rp,hok,show(some (ow[k]'hkl)==some (o:Int))=false from hc7];simp)
  rw[←he];refine Z_4 ?_;refine Zy (cy Zv0 Zv0 Zl) ?_;refine Z_2 ?_;refine ez ((k+1,A1,c1)) ?_ ?_ ?_
  ·exact⟨by show k+1≤256;omega,by show 256 - (k+1)<256 - k;omega⟩
  ·exact Zwk
  exact Zu
 simp only[aj]at hc5;obtain rfl:k=256:=by omega
 refine gQ ?_;refine Zrb ([slv _ _ _ _ _ _]) ?_;exact⟨_,_,rfl,rfl⟩
theorem take_ok(bp:Nat)(B ow pr:List Int)(hl:fB B ow pr)(o:Nat)(ho:o<4)(n:Int)(hn:pr[o]? =some n)(hlt:((gt ow o 256).length:Int)<n)(f0:Nat)(h16:16≤f0)(h256:f0<256)(hf0:ow[f0]? =some (-1))(w:World)(hi:Inv w (bK [eZ bp B ow pr]) [eZ bp B ow pr] w):
  Ctr prog 207 [.pointer (some ⟨bp,0,none⟩),.int .i64 o] w [eZ bp B ow pr] (fun v cs=>∃f:Nat,16≤f∧f<256∧ow[f]? =some (-1)∧v= .tuple #[.int .i64 f,.int .i64 0]∧cs=[eZ bp (eM B f) (ow.set f o) pr]):=by
 have hb:=hl.b;have how:=hl.ow;refine bL func207 rfl ntmps207 rfl hi ?_;refine eu ?_;refine ZSe (fun w hi=>DH o w) ?_;rw[aB (show(0:Int)≤o by omega),aB (show(o:Int)<4 by omega)];refine Z_4 ?_;refine bV rfl (rfl) ?_;refine Zs (bX ⟨fun j=>List.elem j [],[]⟩ Zk ?_);refine ZE 0 ?_;refine ZE 1 ?_;refine ZE 4 ?_;refine ZE 5 ?_;refine ZE 6 ?_;refine ZFe 7 16640 ?_;refine cN 8 rfl Zk Zk Zk (dw (j:=o) (sz:=1) (r:=16640+o) rfl Zrf (Zv rfl) (Zv rfl) (fun _=>by omega) (fun _=>by omega) (by omega)) rfl ?_;refine eX 9 rfl Zk Zk Zk Zk (bO Zrf Zv0) (bS Zh (Cr hl hn)) rfl ?_;refine cw 2 Zk ?_;refine ZT (fun w hi=>held_ok bp B ow pr hl o ho w (hi.get Zh)) ?_;rintro _ _ ⟨_,⟨A1,c1,rfl,rfl⟩,rfl⟩;refine ZE 3 ?_;refine ZE 10 ?_;refine ZE 11 ?_;refine bN Zk ?_;refine Zt (bV rfl ((aD (by omega))) ?_);refine eJ ?_;refine cG (fun k:Nat=>[(0,.pointer (some ⟨bp,0,none⟩)),(1,.int .i64 o),(6,.int .i64 (k:Int))]) (fun _=>[eZ bp B ow pr]) (fun k=>16≤k∧k≤f0) (fun k=>f0 - k) (16) ?_ ?_ ?_ ?_
 ·exact⟨by omega,h16⟩
 ·exact Zwk
 ·exact Zu
 rintro k ⟨hk1,hk2⟩;refine Z_7 ?_;refine ZW ?_ ?_<;>intro hc6
 ·have hkl:k<ow.length:=by omega
  have hok:ow[k]? =some (ow[k]'hkl):=ao hkl;refine Z_9 ?_;refine ZFa 16384 ?_;refine Zy (dw (j:=k) (sz:=1) (r:=16384+k) rfl Zrf (Zv rfl) (Zv rfl) (fun _=>by omega) (fun _=>by omega) (by omega)) ?_;refine dX (bO Zrf Zv0) (bS Zh (uz hl hok)) rfl ?_;refine Z_3 ?_;refine ZW ?_ ?_<;>intro hc8
  ·have h2:ow[k]'hkl= -1:=(by simpa using hc8);rw[h2]at hok;refine Z_6 ?_;refine ZFa 16384 ?_;refine Zy (dw (j:=k) (sz:=1) (r:=16384+k) rfl Zrf (Zv rfl) (Zv rfl) (fun _=>by omega) (fun _=>by omega) (by omega)) ?_;refine dy (dF Zrf rfl rfl rfl Za (by rw[gz hl];omega)) ?_;rintro _ _ ⟨rfl,rfl⟩;rw[sW hl (show k<256 by omega)];have hl':fB B (ow.set k o) pr:=⟨hl.b,by rw[aI];exact hl.ow,hl.pr⟩;refine Z_6 ?_;refine Zy (io (vs:=List.replicate 64 (Value.int .u8 0)) Zk (.inr ⟨_,_,_,rfl,fun _=>rfl⟩)) ?_;refine Z_2 ?_;refine Zy (dw (j:=k) (sz:=64) (r:=k*64) rfl Zrf (Zv rfl) (Zv rfl) (fun _=>by omega) (fun _=>by omega) (by omega)) ?_;refine dy (jA (n:=64) Zrf rfl rfl (fun u hu=>by rw[List.eq_of_mem_replicate hu];rfl) Za (aM) (by rw[gz hl',aM];omega)) ?_;rintro _ _ ⟨rfl,rfl⟩;rw[aM,Cp hl' (show k<256 by omega)];refine qo ?_;refine ft (cs':=[row _ _ _]) (.inl rfl) Zu rfl rfl rfl ?_;exact⟨k,hk1,by omega,hok,rfl,rfl⟩
  have h2:ow[k]'hkl≠ -1:=(by simpa using hc8);have hne:k≠f0:=by(rintro rfl;rw[hok]at hf0;exact h2 (aG hf0))
  refine Z_5 ?_;refine Zy (cy Zv0 Zv0 Zl) ?_;refine Z_2 ?_;refine ez (k+1) ?_ ?_ ?_
  ·exact⟨⟨by omega,by omega⟩,by omega⟩
  ·exact Zwk
  exact Zu
 exfalso;simp only[aj]at hc6;omega
end Go.Proofs.YtakodpimdalajaaGreatDoor
namespace Go.Ink
open Go.RowKit
theorem uk{α:Type}{n k:Nat}(a b:α)(h:k<n):(List.replicate k a++List.replicate (n - k) b).set k a=List.replicate (k+1) a++List.replicate (n - (k+1)) b:=by
 rw[List.set_append_right _ _ (by simp),aM,Nat.sub_self,show n - k=(n - (k+1))+1 by omega,List.replicate_succ,List.set_cons_zero,List.replicate_succ',aq]
 rfl
theorem ul{α:Type}(n:Nat)(a b:α):List.replicate n a++List.replicate (n - n) b=List.replicate n a:=by simp
theorem p8{α:Type}(n:Nat)(a b:α):List.replicate 0 a++List.replicate (n - 0) b=List.replicate n b:=by simp
theorem jC(k:IntKind)(n:Nat)(a:Int):List.replicate n (Value.int k a)=ints k (List.replicate n a):=by simp[ints]
theorem nK(n:Nat)(a:Bool):List.replicate n (Value.bool a)=lf (List.replicate n a):=by simp[lf]
theorem Fs{B ow pr:List Int}(hl:fB B ow pr):((dp B ow pr).drop 16640).take (ints .i64 pr).length=ints .i64 pr:=by
 unfold dp;rw[←aq,List.drop_append,List.drop_eq_nil_of_le (by simp[cO,hl.b,hl.ow]),aP,show 16640 - (ints .u8 B++ints .i64 ow).length=0 by simp[cO,hl.b,hl.ow],List.drop_zero,bG]
def oH(pr:List Int)(k:Nat):Int:=(pr.take k).foldl (fun s x=>s+(if 0>x then 0 else x)) 0
theorem sK{pr:List Int}{k:Nat}(h:k<pr.length):oH pr (k+1)=oH pr k+(if 0>pr[k]'h then 0 else pr[k]'h):=by
 unfold oH;rw[List.take_succ_eq_append_getElem h,List.foldl_append]
 rfl
end Go.Ink
namespace Go.Proofs.YtakodpimdalajaaGreatDoor
open Go.RowKit Go.Ink Go.Proofs.Tryz
attribute [local irreducible] OpY bU
theorem fnew_ok(w:World):Ctr prog 55 [] w [] (fun v cs=>∃bp,v= .pointer (some ⟨bp,0,none⟩)∧cs=[eZ bp (List.replicate 16384 0) (List.replicate 256 (-1)) (List.replicate 4 (-1))]):=by
 have hl1:∀k,k≤256→fB (List.replicate 16384 0) (List.replicate k (-1)++List.replicate (256 - k) 0) (List.replicate 4 0):=fun k hk=>⟨aM,by simp;omega,rfl⟩
 have hl2:∀k,k≤4→fB (List.replicate 16384 0) (List.replicate 256 (-1)) (List.replicate k (-1)++List.replicate (4 - k) 0):=fun k hk=>⟨aM,aM,by simp;omega⟩
 refine bL func55 rfl ntmps55 rfl (Inv.start w) ?_;refine Z_7 ?_;refine Zy (io (vs:=dp (List.replicate 16384 0) (List.replicate 256 0) (List.replicate 4 0)) Zk (.inl ⟨_,rfl,rfl⟩)) ?_;refine ZO fun b5=>?_
 rw[←p8 256 (-1:Int) 0];refine eJ ?_;refine cG (fun k:Nat=>[(1,.pointer (some ⟨b5,0,none⟩)),(6,.int .i64 (k:Int))]) (fun k=>[eZ b5 (List.replicate 16384 0) (List.replicate k (-1)++List.replicate (256 - k) 0) (List.replicate 4 0)]) (fun k=>k≤256) (fun k=>256 - k) (0) ?_ ?_ ?_ ?_
 ·exact ax _
 ·exact Zwk
 ·exact Zu
 rintro k hk;refine Z_6 ?_;refine ZW ?_ ?_<;>intro hc3
 ·simp only[ap]at hc3;refine iG ?_;refine ZFa 16384 ?_;refine Zy (dw (j:=k) (sz:=1) (r:=16384+k) rfl Zrf (Zv rfl) (Zv rfl) (fun _=>by omega) (fun _=>by omega) (by omega)) ?_;refine dy (dF Zrf rfl rfl rfl Za (by rw[gz (hl1 k hk)];omega)) ?_;rintro _ _ ⟨rfl,rfl⟩;rw[sW (hl1 k hk) (by omega),uk _ _ (by omega)];refine Z_4 ?_;refine Zy (cy Zv0 Zv0 Zl) ?_;refine Z_2 ?_;refine ez (k+1) ?_ ?_ ?_
  ·exact⟨by omega,by omega⟩
  ·exact Zwk
  exact Zu
 simp only[aj]at hc3;obtain rfl:k=256:=by omega
 refine Z_8 ?_;rw[ul,←p8 4 (-1:Int) 0];refine Z_4 ?_;refine cG (fun k:Nat=>[(1,.pointer (some ⟨b5,0,none⟩)),(15,.int .i64 (k:Int))]) (fun k=>[eZ b5 (List.replicate 16384 0) (List.replicate 256 (-1)) (List.replicate k (-1)++List.replicate (4 - k) 0)]) (fun k=>k≤4) (fun k=>4 - k) (0) ?_ ?_ ?_ ?_
 ·exact ax _
 ·exact Zwk
 ·exact Zu
 rintro k hk;refine Z_6 ?_;refine ZW ?_ ?_<;>intro hc8
 ·simp only[ap]at hc8;refine iG ?_;refine ZFa 16640 ?_;refine Zy (dw (j:=k) (sz:=1) (r:=16640+k) rfl Zrf (Zv rfl) (Zv rfl) (fun _=>by omega) (fun _=>by omega) (by omega)) ?_;refine dy (dF Zrf rfl rfl rfl Za (by rw[gz (hl2 k hk)];omega)) ?_;rintro _ _ ⟨rfl,rfl⟩;rw[sV (hl2 k hk),uk _ _ (by omega)];refine Z_4 ?_;refine Zy (cy Zv0 Zv0 Zl) ?_;refine Z_2 ?_;refine ez (k+1) ?_ ?_ ?_
  ·exact⟨by omega,by omega⟩
  ·exact Zwk
  exact Zu
 simp only[aj]at hc8;obtain rfl:k=4:=by omega
 refine Z_7 ?_;rw[ul];refine Z_5 ?_;refine Zrb ([row _ _ _]) ?_;exact⟨_,rfl,rfl⟩
theorem Ah(bp:Nat)(B ow pr:List Int)(hl:fB B ow pr)(o n:Nat)(ho:o<4)(hn:n≤64)(h1:pr[o]? =some (-1))(hs:(n:Int)+oH pr 4≤240)(hb:∀x,x∈pr→x≤1000)(w:World)(hi:Inv w (bK [eZ bp B ow pr]) [eZ bp B ow pr] w):
  Ctr prog 117 [.pointer (some ⟨bp,0,none⟩),.int .i64 o,.int .i64 n] w [eZ bp B ow pr] (fun v cs=>v= .int .i64 0∧cs=[eZ bp B ow (pr.set o n)]):=by
 have hpl:=hl.pr;have hbd:∀k,k≤4→0≤oH pr k∧oH pr k≤1000*(k:Int):=by
  intro k
  induction k with
  |zero=>intro _;exact⟨by simp[oH],by simp[oH]⟩
  |succ k ih=>
   intro hk;have h1:=ih (by omega);have hkl:k<pr.length:=by omega
   have h2:=hb _ (List.getElem_mem hkl);rw[sK hkl];split<;>omega
 refine bL func117 rfl ntmps117 rfl hi ?_;refine eJ ?_;refine ZSe (fun w hi=>DH o w) ?_;rw[aB (show(0:Int)≤o by omega),aB (show(o:Int)<4 by omega)];refine gQ ?_;refine bV rfl ((by rw[aD (show¬(n:Int)<0 by omega),aD (show¬(64:Int)<n by omega)];rfl)) ?_;refine Z_5 ?_;refine ZFa 16640 ?_;refine Zy (dw (j:=o) (sz:=1) (r:=16640+o) rfl Zrf (Zv rfl) (Zv rfl) (fun _=>by omega) (fun _=>by omega) (by omega)) ?_;refine dX (bO Zrf Zv0) (bS Zh (Cr hl h1)) rfl ?_;refine Z_4 ?_;refine bV rfl (rfl) ?_;refine gQ ?_;have e0:oH pr 0=0:=rfl;refine Z_2 ?_;refine ZFa 16640 ?_;refine dX (cB (vs:=ints .i64 pr) Zrf (fun w=>by rw[cO,hpl];rfl) (Zv rfl)) (cX (o:=16640) Zh (Fs hl)) rfl ?_;refine Z_4 ?_;refine cG (fun k:Nat=>[(0,.pointer (some ⟨bp,0,none⟩)),(1,.int .i64 o),(2,.int .i64 n),(7,.int .i64 (n+oH pr k)),(34,.agg (ints .i64 pr).toArray),(35,.int .i64 (k:Int))]) (fun _=>[eZ bp B ow pr]) (fun k=>k≤4) (fun k=>4 - k) (0) ?_ ?_ ?_ ?_
 ·exact ax _
 ·exact Zwk
 ·exact Zu
 rintro k hk;refine Z_6 ?_;refine ZW ?_ ?_<;>intro hc7
 ·simp only[ap]at hc7;have hkl:k<pr.length:=by omega
  have hbk:=hbd k hk;have hbk2:=hb _ (List.getElem_mem hkl);refine Z_6 ?_;refine Zy (yd (j:=k) rfl Zrf Zrf (Zv rfl) (Zv rfl) (fun _=>by omega) (fun _=>by omega) (fun _=>qh hkl)) ?_;refine Z_6 ?_;refine Zy (zz Zv0 Zv0 rfl) ?_;refine dX (cy (pK rfl) (pK rfl) (show IntKind.i64.wrap _=n+oH pr (k+1) by rw[sK hkl];refine(IntWalk.i64_in _ ⟨?_,?_⟩).trans (by omega)<;>split<;>omega)) (fun _ _=>trivial) rfl ?_;refine Z_5 ?_;refine Zy (cy Zv0 Zv0 Zl) ?_;refine Z_2 ?_;refine ez (k+1) ?_ ?_ ?_
  ·exact⟨by omega,by omega⟩
  ·exact Zwk
  exact Zu
 simp only[aj]at hc7;obtain rfl:k=4:=by omega
 refine gQ ?_;refine bV rfl ((aD (by omega))) ?_;refine Z_8 ?_;refine ZFa 16640 ?_;refine Zy (dw (j:=o) (sz:=1) (r:=16640+o) rfl Zrf (Zv rfl) (Zv rfl) (fun _=>by omega) (fun _=>by omega) (by omega)) ?_;refine dy (dF Zrf rfl rfl rfl Za (by rw[gz hl];omega)) ?_;rintro _ _ ⟨rfl,rfl⟩;rw[sV hl];refine Z_8 ?_;refine Zrb ([row _ _ _]) ?_;exact⟨rfl,rfl⟩
abbrev i6(bt bp:Nat)(o:Nat)(bf bg n:Nat):bJ:=row bt [.pointer (some ⟨bp,0,none⟩),.int .i64 o,.slice (some ⟨bf,0,none⟩) n n,.slice (some ⟨bg,0,none⟩) n n] 219
abbrev frC(bf n:Nat)(fr:List Int):bJ:=sl .i64 3 (some ⟨bf,0,none⟩) n n fr
abbrev gdC(bg n:Nat)(gd:List Bool):bJ:=slv 4 1 (some ⟨bg,0,none⟩) n n (lf gd)
theorem nnew_ok(bp:Nat)(B ow pr:List Int)(hl:fB B ow pr)(o n:Nat)(ho:o<4)(hn0:1≤n)(hn:n≤64)(h1:pr[o]? =some (-1))(hs:(n:Int)+oH pr 4≤240)(hb:∀x,x∈pr→x≤1000)(w:World)(hi:Inv w (bK [eZ bp B ow pr]) [eZ bp B ow pr] w):
  Ctr prog 76 [.pointer (some ⟨bp,0,none⟩),.int .i64 o,.int .i64 n] w [eZ bp B ow pr] (fun v cs=>∃bt bf bg,v= .tuple #[.pointer (some ⟨bt,0,none⟩),.int .i64 0]∧cs=[eZ bp B ow (pr.set o n),i6 bt bp o bf bg n,frC bf n (List.replicate n (-1)),gdC bg n (List.replicate n false)]):=by
 refine bL func76 rfl ntmps76 rfl hi ?_;refine mL ?_;refine Z_9 ?_;refine bV rfl ((by rw[aD (show¬(o:Int)<0 by omega),aD (show¬(4:Int)≤o by omega),aD (show¬(n:Int)<1 by omega),aD (show¬(64:Int)<n by omega)];rfl)) ?_;refine Z_8 ?_;refine ZcM ([eZ bp B ow pr]) (fun w hi hin=>Ah bp B ow pr hl o n ho hn h1 hs hb w hin) ?_;refine Z_9 ?_;refine bV rfl (rfl) ?_;refine Z_3 ?_;refine bX ⟨fun j=>List.elem j [],[]⟩ Zk ?_;refine ZE 0 ?_;refine ZE 1 ?_;refine ZE 2 ?_;refine ZE 4 ?_;refine jY 3 5 Zk ?_ ?_
 ·refine gn rfl rfl (iJ (bytes:=8) (n:=n) rfl rfl rfl rfl rfl rfl rfl (by omega) (by simp only[maxLen];omega)) ZJ rfl ?_;rintro _ _ ⟨b39,rfl,rfl⟩;refine cw 5 Zk ?_;refine gn rfl rfl (iJ (bytes:=1) (n:=n) rfl rfl rfl rfl rfl rfl rfl (by omega) (by simp only[maxLen];omega)) ZJ rfl ?_;rintro _ _ ⟨b41,rfl,rfl⟩;refine ZE 6 ?_;refine cw 7 Zk ?_;refine gn rfl rfl (qD rfl rfl) ZJ rfl ?_;rintro _ _ ⟨b43,rfl,rfl⟩;refine ZE 8 ?_;refine bN Zk ?_;refine Z_4 ?_;rw[jC,nK,←p8 n (-1:Int) 0];refine lp [eZ bp B ow (pr.set o n),i6 b43 bp o b39 b41 n,frC b39 n (List.replicate 0 (-1)++List.replicate (n - 0) 0),gdC b41 n (List.replicate n false)] Zj ?_;refine Z_9 ?_;refine cG (fun k:Nat=>[(9,.pointer (some ⟨b43,0,none⟩)),(48,.int .i64 n),(49,.int .i64 (k:Int))]) (fun k=>[eZ bp B ow (pr.set o n),i6 b43 bp o b39 b41 n,frC b39 n (List.replicate k (-1)++List.replicate (n - k) 0),gdC b41 n (List.replicate n false)]) (fun k=>k≤n) (fun k=>n - k) (0) ?_ ?_ ?_ ?_
  ·exact ax _
  ·exact Zwk
  ·exact Zu
  rintro k hk;refine Z_6 ?_;refine ZW ?_ ?_<;>intro hc8
  ·simp only[ap]at hc8;refine qn ?_;refine Zy (cC (j:=k) (sz:=1) (r:=k) rfl Zrf (Zv rfl) (Zv rfl) (fun _=>by omega) (fun _=>by omega) (by omega)) ?_;refine dy (fL Zrf rfl rfl rfl Za (by omega)) ?_;rintro _ _ ⟨rfl,rfl⟩;rw[fX,uk _ _ (by omega)];refine Z_4 ?_;refine Zy (cy Zv0 Zv0 Zl) ?_;refine Z_2 ?_;refine ez (k+1) ?_ ?_ ?_
   ·exact⟨by omega,by omega⟩
   ·exact Zwk
   exact Zu
  simp only[aj]at hc8;obtain rfl:k=n:=by omega
  rw[ul];refine jT ?_;refine ft (cs':=[row _ _ _,row _ _ _,slv _ _ _ _ _ _,slv _ _ _ _ _ _]) (.inl rfl) Zu rfl rfl rfl ?_;exact⟨_,_,_,rfl,rfl⟩
 refine gn rfl rfl (iJ (bytes:=1) (n:=n) rfl rfl rfl rfl rfl rfl rfl (by omega) (by simp only[maxLen];omega)) ZJ rfl ?_;rintro _ _ ⟨b41,rfl,rfl⟩;refine cw 3 Zk ?_;refine gn rfl rfl (iJ (bytes:=8) (n:=n) rfl rfl rfl rfl rfl rfl rfl (by omega) (by simp only[maxLen];omega)) ZJ rfl ?_;rintro _ _ ⟨b39,rfl,rfl⟩;refine ZE 6 ?_;refine cw 7 Zk ?_;refine gn rfl rfl (qD rfl rfl) ZJ rfl ?_;rintro _ _ ⟨b43,rfl,rfl⟩;refine ZE 8 ?_;refine bN Zk ?_;refine Z_4 ?_;rw[jC,nK,←p8 n (-1:Int) 0];refine lp [eZ bp B ow (pr.set o n),i6 b43 bp o b39 b41 n,frC b39 n (List.replicate 0 (-1)++List.replicate (n - 0) 0),gdC b41 n (List.replicate n false)] Zj ?_;refine Z_9 ?_;refine cG (fun k:Nat=>[(9,.pointer (some ⟨b43,0,none⟩)),(48,.int .i64 n),(49,.int .i64 (k:Int))]) (fun k=>[eZ bp B ow (pr.set o n),i6 b43 bp o b39 b41 n,frC b39 n (List.replicate k (-1)++List.replicate (n - k) 0),gdC b41 n (List.replicate n false)]) (fun k=>k≤n) (fun k=>n - k) (0) ?_ ?_ ?_ ?_
 ·exact ax _
 ·exact Zwk
 ·exact Zu
 rintro k hk;refine Z_6 ?_;refine ZW ?_ ?_<;>intro hc8
 ·simp only[ap]at hc8;refine qn ?_;refine Zy (cC (j:=k) (sz:=1) (r:=k) rfl Zrf (Zv rfl) (Zv rfl) (fun _=>by omega) (fun _=>by omega) (by omega)) ?_;refine dy (fL Zrf rfl rfl rfl Za (by omega)) ?_;rintro _ _ ⟨rfl,rfl⟩;rw[fX,uk _ _ (by omega)];refine Z_4 ?_;refine Zy (cy Zv0 Zv0 Zl) ?_;refine Z_2 ?_;refine ez (k+1) ?_ ?_ ?_
  ·exact⟨by omega,by omega⟩
  ·exact Zwk
  exact Zu
 simp only[aj]at hc8;obtain rfl:k=n:=by omega
 rw[ul];refine jT ?_;refine ft (cs':=[row _ _ _,row _ _ _,slv _ _ _ _ _ _,slv _ _ _ _ _ _]) (.inl rfl) Zu rfl rfl rfl ?_;exact⟨_,_,_,rfl,rfl⟩
end Go.Proofs.YtakodpimdalajaaGreatDoor
namespace Go.Ink
open Go.RowKit
structure gR where
 bp:Nat
 bt:Nat
 bf:Nat
 bg:Nat
 bm:Nat
 o:Nat
 n:Nat
structure Mem where
 data:List Int
 Ii:List Bool
structure MemK where
 B:List Int
 ow:List Int
 pr:List Int
 fr:List Int
 gd:List Bool
structure fC(L:gR)(M:Mem)(k:MemK):Prop where
 pl:fB k.B k.ow k.pr
 o4:L.o<4
 n1:1≤L.n
 n64:L.n≤64
 fr:k.fr.length=L.n
 gd:k.gd.length=L.n
 dl:M.data.length=L.n*64
 tl:M.Ii.length=64
 db:u8s M.data
 Iq:∀p,p<L.n→(k.fr[p]? =some (-1)∧∀j,j<64→M.data[p*64+j]? =some 0)∨(∃f:Nat,k.fr[p]? =some (f:Int)∧16≤f∧f<256∧k.ow[f]? =some (L.o:Int)∧∀j,j<64→k.B[f*64+j]? =M.data[p*64+j]?)
 inj:∀p q f:Nat,k.fr[p]? =some (f:Int)→k.fr[q]? =some (f:Int)→p=q
 held:∀f:Nat,f<256→k.ow[f]? =some (-1)∨(k.ow[f]? =some (L.o:Int)∧∃p:Nat,k.fr[p]? =some (f:Int))
 prom:k.pr[L.o]? =some (L.n:Int)
def Mem.put(M:Mem)(a:Nat)(b:Int):Mem:=⟨M.data.set a b,M.Ii.set (a/64) true⟩
def Mem.calm(M:Mem):Mem:=⟨M.data,List.replicate 64 false⟩
theorem lI:∀(n:Nat) (l:List Nat),l.Nodup→(∀x,x∈l→x<n)→l.length≤n
 |0,l,_,h=>by
  cases l with
  |nil=>simp
  |cons x l=>have:=h x (by simp);omega
 |n+1,l,hn,h=>by
  by_cases hm:n∈l
  ·have h1:=lI n (l.erase n) (hn.erase n) (fun x hx=>by
    have h2:=(hn.mem_erase_iff).1 hx;have h3:=h x h2.2;have:=h2.1;omega)
   rw[List.length_erase_of_mem hm]at h1;omega
  have h1:=lI n l hn (fun x hx=>by
   have h3:=h x hx;have:x≠n:=fun e=>hm (e▸hx)
   omega)
  omega
section
variable {L:gR} {M:Mem} {k:MemK}
theorem Dk{l:List Int}{f:Int}(h:f∈l):l[l.idxOf f]? =some f:=by
 have hlt:l.idxOf f<l.length:=List.idxOf_lt_length_of_mem h;rw[ao hlt,List.getElem_idxOf]
theorem rj{l:List Int}:∀{fs:List Nat},fs.Nodup→(∀f,f∈fs→((f:Nat):Int)∈l)→(fs.map fun f:Nat=>l.idxOf (f:Int)).Nodup
 |[],_,_=>by simp
 |f::fs,hn,h=>by
  simp only[List.map_cons,List.nodup_cons]at hn⊢;refine⟨fun hm=>?_,rj hn.2 (fun g hg=>h g (by simp[hg]))⟩;obtain⟨g,hg,he⟩:=aY.1 hm;have h1:=Dk (h g (by simp[hg]));have h2:=Dk (h f (by simp));rw[he,h2]at h1;have:f=g:=by have:=aG h1;omega
  exact hn.1 (this▸hg)
theorem Hn{l:List Int}{p:Nat}{v:Int}(h:l[p]? =some v):v∈l:=aJ h
theorem fC.heldLt(h:fC L M k){p:Nat}(hp:k.fr[p]? =some (-1)):(gt k.ow L.o 256).length<L.n:=by
 unfold gt;rw[List.length_map];obtain⟨fs,hfs⟩:=Zgn ((List.range 256).filter (fun f=>k.ow[f]? ==some (L.o:Int)));rw[hfs];have hmem:∀f,f∈fs→((f:Nat):Int)∈k.fr:=fun f hf=>by
  rw[←hfs,List.mem_filter,List.mem_range]at hf;rcases h.held f hf.1 with h1|⟨_,q,hq⟩
  ·rw[h1]at hf;have:=hf.2;simp at this
  exact Hn hq
 have hnd:fs.Nodup:=by rw[←hfs];exact List.filter_sublist.nodup List.nodup_range
 have h1:=rj hnd hmem;have hpl:p<L.n:=by have:=(au.1 hp).1;rw[h.fr]at this;exact this
 have h2:=lI L.n (p::fs.map fun f:Nat=>k.fr.idxOf (f:Int)) (List.nodup_cons.2 ⟨fun hm=>by
  obtain⟨f,hf,he⟩:=aY.1 hm;have:=Dk (hmem f hf);rw[he,hp]at this;have:=aG this;omega,h1⟩) (fun x hx=>by
  rcases aL.1 hx with rfl|hx
  ·exact hpl
  obtain⟨f,hf,rfl⟩:=aY.1 hx;have:=List.idxOf_lt_length_of_mem (hmem f hf);rw[h.fr]at this;exact this)
 simp only[ai,List.length_map]at h2;omega
theorem fC.free(h:fC L M k):∃f,16≤f∧f<256∧k.ow[f]? =some (-1):=by
 apply Classical.byContradiction;intro hno;have hmem:∀f,f∈List.range' 16 240→((f:Nat):Int)∈k.fr:=fun f hf=>by
  rw[List.mem_range'_1]at hf;rcases h.held f (by omega)with h1|⟨_,q,hq⟩
  ·exact absurd ⟨f,hf.1,by omega,h1⟩ hno
  exact Hn hq
 have h1:=rj (List.nodup_range' (s:=16) (n:=240)) hmem;have h2:=lI L.n _ h1 (fun x hx=>by
  obtain⟨f,hf,rfl⟩:=aY.1 hx;have:=List.idxOf_lt_length_of_mem (hmem f hf);rw[h.fr]at this;exact this)
 rw[List.length_map,List.length_range']at h2;have:=h.n64;omega
theorem fC.at_(h:fC L M k){a:Nat}(ha:a<L.n*64):∃b,M.data[a]? =some b∧0≤b∧b≤255:=by
 have hl:a<M.data.length:=by rw[h.dl];exact ha
 refine⟨M.data[a],ao hl,h.db _ (List.getElem_mem hl)⟩
theorem fC.putF(h:fC L M k){p j f:Nat}{b:Int}(hj:j<64)(hb:0≤b∧b≤255)(hf:k.fr[p]? =some (f:Int)):fC L (M.put (p*64+j) b) {k with B:=k.B.set (f*64+j) b}:=by
 have hpl:p<L.n:=by have:=(au.1 hf).1;rw[h.fr]at this;exact this
 have hBl:=h.pl.b;have hf256:f<256:=by
  rcases h.Iq p hpl with⟨h1,_⟩|⟨f',h1,h2,h3,_⟩
  ·rw[hf]at h1;have:=aG h1;omega
  rw[hf]at h1;have:=aG h1;omega
 refine⟨⟨by rw[aI];exact h.pl.b,h.pl.ow,h.pl.pr⟩,h.o4,h.n1,h.n64,h.fr,h.gd,by show(M.data.set _ _).length=_;rw[aI];exact h.dl,by show(M.Ii.set _ _).length=_;rw[aI];exact h.tl,?_,?_,h.inj,h.held,h.prom⟩
 ·intro x hx;rcases List.mem_or_eq_of_mem_set hx with h1|h1
  ·exact h.db x h1
  rw[h1];exact hb
 intro q hq;show(k.fr[q]? =some (-1)∧∀i,i<64→(M.data.set (p*64+j) b)[q*64+i]? =some 0)∨(∃g:Nat,k.fr[q]? =some (g:Int)∧16≤g∧g<256∧k.ow[g]? =some (L.o:Int)∧∀i,i<64→(k.B.set (f*64+j) b)[g*64+i]? =(M.data.set (p*64+j) b)[q*64+i]?);rcases h.Iq q hq with⟨h1,h2⟩|⟨g,h1,h2,h3,h4,h5⟩
 ·left;have hne:q≠p:=by rintro rfl;rw[hf]at h1;have:=aG h1;omega
  refine⟨h1,fun i hi=>?_⟩;rw[List.getElem?_set_ne (by omega)];exact h2 i hi
 right;refine⟨g,h1,h2,h3,h4,fun i hi=>?_⟩;by_cases hqp:q=p
 ·subst hqp;have hg:g=f:=by rw[hf]at h1;have:=aG h1;omega
  subst hg;rw[List.getElem?_set,List.getElem?_set];by_cases hij:j=i
  ·subst hij;have hdl:=h.dl;rw[if_pos rfl,if_pos rfl,if_pos (by omega),if_pos (by rw[hdl];omega)]
  rw[if_neg (by omega),if_neg (by omega)];exact h5 i hi
 have hgf:g≠f:=by
  rintro rfl;exact hqp (h.inj q p g h1 hf)
 rw[List.getElem?_set_ne (by omega),List.getElem?_set_ne (by omega)];exact h5 i hi
theorem fC.map(h:fC L M k){p f:Nat}(hp:p<L.n)(hf:k.fr[p]? =some (-1))(h16:16≤f)(h256:f<256)(hw:k.ow[f]? =some (-1)):fC L M {k with B:=eM k.B f,ow:=k.ow.set f L.o,fr:=k.fr.set p f}:=by
 have hBl:=h.pl.b;have howl:=h.pl.ow;have hfl:=h.fr;have hnof:∀q:Nat,k.fr[q]? ≠some (f:Int):=fun q hq=>by
  have hql:q<L.n:=by have:=(au.1 hq).1;rw[h.fr]at this;exact this
  rcases h.Iq q hql with⟨h1,_⟩|⟨g,h1,_,_,h4,_⟩
  ·rw[hq]at h1;have:=aG h1;omega
  rw[hq]at h1;have:g=f:=by have:=aG h1;omega
  subst this;rw[hw]at h4;have:=aG h4;omega
 have hz:∀j,j<64→M.data[p*64+j]? =some 0:=by
  rcases h.Iq p hp with⟨_,h2⟩|⟨g,h1,_⟩
  ·exact h2
  rw[hf]at h1;have:=aG h1;omega
 refine⟨⟨tN hBl h256,by rw[aI];exact h.pl.ow,h.pl.pr⟩,h.o4,h.n1,h.n64,by show(k.fr.set _ _).length=_;rw[aI];exact h.fr,h.gd,h.dl,h.tl,h.db,?_,?_,?_,h.prom⟩
 ·intro q hq;show((k.fr.set p (f:Int))[q]? =some (-1)∧∀i,i<64→M.data[q*64+i]? =some 0)∨(∃g:Nat,(k.fr.set p (f:Int))[q]? =some (g:Int)∧16≤g∧g<256∧(k.ow.set f (L.o:Int))[g]? =some (L.o:Int)∧∀i,i<64→(eM k.B f)[g*64+i]? =M.data[q*64+i]?);by_cases hqp:q=p
  ·subst hqp;right;refine⟨f,by rw[List.getElem?_set,if_pos rfl,if_pos (by omega)],h16,h256,by rw[List.getElem?_set,if_pos rfl,if_pos (by omega)],fun i hi=>?_⟩;rw[vi hBl h256 hi,hz i hi]
  rw[List.getElem?_set_ne (by omega)];rcases h.Iq q hq with h1|⟨g,h1,h2,h3,h4,h5⟩
  ·exact .inl h1
  right;have hgf:g≠f:=by rintro rfl;exact hnof q h1
  refine⟨g,h1,h2,h3,by rw[List.getElem?_set_ne (by omega)];exact h4,fun i hi=>?_⟩;rw[tM hBl h256 (by omega)];exact h5 i hi
 ·intro a b g ha hb;show a=b
  change (k.fr.set p (f:Int))[a]? =_ at ha
  change (k.fr.set p (f:Int))[b]? =_ at hb
  by_cases hap:a=p
  ·by_cases hbp:b=p
   ·omega
   subst hap;rw[List.getElem?_set,if_pos rfl,if_pos (by omega)]at ha;rw[List.getElem?_set_ne (by omega)]at hb;have:f=g:=by have:=aG ha;omega
   subst this;exact absurd hb (hnof b)
  by_cases hbp:b=p
  ·subst hbp;rw[List.getElem?_set,if_pos rfl,if_pos (by omega)]at hb;rw[List.getElem?_set_ne (by omega)]at ha;have:f=g:=by have:=aG hb;omega
   subst this;exact absurd ha (hnof a)
  rw[List.getElem?_set_ne (by omega)]at ha hb;exact h.inj a b g ha hb
 intro g hg;show(k.ow.set f (L.o:Int))[g]? =some (-1)∨((k.ow.set f (L.o:Int))[g]? =some (L.o:Int)∧∃q:Nat,(k.fr.set p (f:Int))[q]? =some (g:Int));by_cases hgf:g=f
 ·subst hgf;right;exact⟨by rw[List.getElem?_set,if_pos rfl,if_pos (by omega)],p,by rw[List.getElem?_set,if_pos rfl,if_pos (by omega)]⟩
 rw[List.getElem?_set_ne (by omega)];rcases h.held g hg with h1|⟨h1,q,hq⟩
 ·exact .inl h1
 right;refine⟨h1,q,?_⟩;have:q≠p:=by rintro rfl;rw[hf]at hq;have:=aG hq;omega
 rw[List.getElem?_set_ne (by omega)];exact hq
theorem fC.put0(h:fC L M k){p j:Nat}(hj:j<64)(hp:p<L.n)(hf:k.fr[p]? =some (-1)):fC L (M.put (p*64+j) 0) k:=by
 have hz:M.data[p*64+j]? =some 0:=by
  rcases h.Iq p hp with⟨_,h2⟩|⟨g,h1,_⟩
  ·exact h2 j hj
  rw[hf]at h1;have:=aG h1;omega
 have e:M.data.set (p*64+j) 0=M.data:=by
  apply List.ext_getElem?;intro i;rw[List.getElem?_set];split
  ·rename_i hi;subst hi;have:=(au.1 hz).1;rw[if_pos this,hz]
  rfl
 unfold Mem.put;rw[e];exact⟨h.pl,h.o4,h.n1,h.n64,h.fr,h.gd,h.dl,by show(M.Ii.set _ _).length=_;rw[aI];exact h.tl,h.db,h.Iq,h.inj,h.held,h.prom⟩
theorem fC.calm(h:fC L M k):fC L M.calm k:=⟨h.pl,h.o4,h.n1,h.n64,h.fr,h.gd,h.dl,aM,h.db,h.Iq,h.inj,h.held,h.prom⟩
end
def Mem.new(n:Nat):Mem:=⟨List.replicate (n*64) 0,List.replicate 64 false⟩
theorem fC.new{L:gR}(ho:L.o<4)(h1:1≤L.n)(h64:L.n≤64):fC L (Mem.new L.n) ⟨List.replicate 16384 0,List.replicate 256 (-1),(List.replicate 4 (-1)).set L.o L.n,List.replicate L.n (-1),List.replicate L.n false⟩:=by
 refine⟨⟨aM,aM,by rw[aI];rfl⟩,ho,h1,h64,aM,aM,aM,aM,?_,?_,?_,?_,?_⟩
 ·intro x hx;have:=List.eq_of_mem_replicate hx;omega
 ·intro p hp;left;refine⟨by rw[List.getElem?_replicate,if_pos hp],fun j hj=>?_⟩;show(List.replicate (L.n*64) (0:Int))[p*64+j]? =_;rw[List.getElem?_replicate,if_pos (by omega)]
 ·intro p q f hp
  change (List.replicate L.n (-1:Int))[p]? =_ at hp
  rw[List.getElem?_replicate]at hp;split at hp
  ·have:=aG hp;omega
  cases hp
 ·intro f hf;left;show(List.replicate 256 (-1:Int))[f]? =_;rw[List.getElem?_replicate,if_pos hf]
 show((List.replicate 4 (-1:Int)).set L.o (L.n:Int))[L.o]? =_;rw[List.getElem?_set,if_pos rfl,if_pos (by simpa using ho)]
end Go.Ink
namespace Go.Proofs.YtakodpimdalajaaGreatDoor
open Go.RowKit Go.Ink Go.Proofs.Tryz
attribute [local irreducible] OpY bU
def ff(L:gR)(tu:List Bool):List Value:= .pointer (some ⟨L.bp,0,none⟩):: .pointer (some ⟨L.bt,0,none⟩)::(lf tu++[.bool false])
abbrev v4(L:gR)(tu:List Bool):bJ:=row L.bm (ff L tu) 201
theorem memCells_tu{L:gR}{tu:List Bool}{j:Nat}{b:Bool}(h:tu[j]? =some b):(ff L tu)[2+j]? =some (.bool b):=by
 have hj:=(au.1 h).1;unfold ff;rw[show 2+j=j+1+1 by omega,List.getElem?_cons_succ,List.getElem?_cons_succ,bD (by rw[jR];exact hj)];exact zo h
theorem qW{L:gR}{tu:List Bool}(h:tu.length=64):(ff L tu)[66]? =some (.bool false):=by
 unfold ff;rw[List.getElem?_cons_succ,List.getElem?_cons_succ,bF (by rw[jR];omega),jR,h]
 rfl
theorem j6{L:gR}{tu:List Bool}(h:tu.length=64):(ff L tu).length=67:=by simp[ff,jR,h]
theorem lJ{L:gR}{tu:List Bool}{j:Nat}(hj:j<tu.length)(b:Bool):(ff L tu).set (2+j) (.bool b)=ff L (tu.set j b):=by
 unfold ff;rw[show 2+j=j+1+1 by omega,List.set_cons_succ,List.set_cons_succ,List.set_append_left _ _ (by rw[jR];exact hj),Ef]
theorem v5{L:gR}{tu:List Bool}:((ff L tu).drop 2).take (lf tu).length=lf tu:=by
 unfold ff;simp
theorem uI{L:gR}{tu:List Bool}(h:tu.length=64):(ff L tu).take 2++List.replicate 64 (Value.bool false)++(ff L tu).drop (2+64)=ff L (List.replicate 64 false):=by
 unfold ff;have:(lf tu).length=64:=by rw[jR,h]
 rw[nK];simp[this]
def Bg(L:gR)(tu:List Bool)(k:MemK):List bJ:=[eZ L.bp k.B k.ow k.pr,i6 L.bt L.bp L.o L.bf L.bg L.n,frC L.bf L.n k.fr,gdC L.bg L.n k.gd,v4 L tu]
abbrev eL(L:gR)(M:Mem):bJ:=exC [L.bp,L.bt,L.bf,L.bg,L.bm] (Bg L M.Ii) Zrf (fC L M)
theorem nQ{L:gR}{M:Mem}{w:World}(h:(eL L M).ok w):∃k,fC L M k∧(eZ L.bp k.B k.ow k.pr).ok w∧(i6 L.bt L.bp L.o L.bf L.bg L.n).ok w∧(frC L.bf L.n k.fr).ok w∧(v4 L M.Ii).ok w:=by
 obtain⟨k,h1,h2⟩:=exC_ok h;exact⟨k,h1,h2 _ (.head _ _),h2 _ (.tail _ (.head _ _)),h2 _ (.tail _ (.tail _ (.head _ _))),h2 _ (.tail _ (.tail _ (.tail _ (.tail _ (.head _ _)))))⟩
theorem qe(bt bp o bf bg n:Nat)(w:World)(h:(i6 bt bp o bf bg n).ok w):Ctr prog 112 [.pointer (some ⟨bt,0,none⟩)] w [] (fun v cs=>v= .int .i64 n∧cs=[]):=by
 refine bL func112 rfl ntmps112 rfl (Inv.start w) ?_;refine eJ ?_;refine dX (bO Zrf (Zv rfl)) (dL (by assumption) rfl) rfl ?_;refine Z_5 ?_;refine Zra ?_;exact⟨rfl,rfl⟩
theorem Hb(bt bp o bf bg n p:Nat)(w:World)(h:(i6 bt bp o bf bg n).ok w):Ctr prog 146 [.pointer (some ⟨bt,0,none⟩),.int .i64 p] w [] (fun v cs=>v= .bool (decide (p<n))∧cs=[]):=by
 refine bL func146 rfl ntmps146 rfl (Inv.start w) ?_;refine iG ?_;refine kK (cu rfl rfl) (bO Zrf (dQ rfl)) (dL (by assumption) rfl) rfl ?_;refine Z_7 ?_;refine Zra ?_;rw[aB (show(0:Int)≤p by omega),show decide ((p:Int)<n)=decide (p<n)from decide_eq_decide.2 (by omega)];exact⟨rfl,rfl⟩
def rz(f:Int):Value:=bif f== -1 then .tuple #[.int .i64 0,.bool false]else .tuple #[.int .i64 f,.bool true]
theorem ku(bt bp o bf bg n p:Nat)(fr:List Int)(f:Int)(hp:p<n)(hf:fr[p]? =some f)(w:World)(h:(i6 bt bp o bf bg n).ok w)(h2:(frC bf n fr).ok w):
  Ctr prog 102 [.pointer (some ⟨bt,0,none⟩),.int .i64 p] w [] (fun v cs=>v=rz f∧cs=[]):=by
 have hrd:=tY h2;refine bL func102 rfl ntmps102 rfl (Inv.start w) ?_;refine eu ?_;refine ZSe (fun w hi=>Hb bt bp o bf bg n p w (bJ.old h hi)) ?_;rw[aB hp];refine Z_5 ?_;refine kK (cD rfl rfl) (bO Zrf (dQ rfl)) (dL (by assumption) rfl) rfl ?_;refine ZB ?_;refine Zyn rfl rfl (dx (j:=p) rfl Zrf (dQ rfl) (dQ rfl) (fun _=>by omega) (fun _=>by omega)) ?_;refine kK (cD rfl rfl) (bO Zrf (dQ rfl)) (fN hrd (cZ hf)) rfl ?_;refine Z_4 ?_;refine ZW ?_ ?_<;>intro hc1
 ·have hc:(f== -1)=true:=hc1;simp only[rz,hc,ac];refine Z_8 ?_;refine ft (cs':=[]) (.inl rfl) Zu rfl rfl rfl ?_;exact⟨rfl,rfl⟩
 have hc:(f== -1)=false:=hc1;simp only[rz,hc,aa];refine Z_7 ?_;refine dX (bO Zrf (Zv rfl)) (dL (by assumption) rfl) rfl ?_;refine ZA ?_;refine Zy (dx (j:=p) rfl Zrf (Zv rfl) (Zv rfl) (fun _=>by omega) (fun _=>by omega)) ?_;refine dX (bO Zrf Zv0) (fN hrd (cZ hf)) rfl ?_;refine Z_5 ?_;refine ft (cs':=[]) (.inl rfl) Zu rfl rfl rfl ?_;exact⟨rfl,rfl⟩
theorem tmap_ok(bt bp o bf bg n p:Nat)(B ow pr fr:List Int)(hl:fB B ow pr)(ho:o<4)(hn:pr[o]? =some (n:Int))(hlt:(gt ow o 256).length<n)(f0:Nat)(h16:16≤f0)(h256:f0<256)(hf0:ow[f0]? =some (-1))(hp:p<n)(hf:fr[p]? =some (-1))(w:World)
  (hi:Inv w (bK [i6 bt bp o bf bg n,frC bf n fr,eZ bp B ow pr]) [i6 bt bp o bf bg n,frC bf n fr,eZ bp B ow pr] w):
  Ctr prog 156 [.pointer (some ⟨bt,0,none⟩),.int .i64 p] w [i6 bt bp o bf bg n,frC bf n fr,eZ bp B ow pr] (fun v cs=>∃f:Nat,16≤f∧f<256∧ow[f]? =some (-1)∧v= .tuple #[.int .i64 f,.int .i64 0]∧cs=[eZ bp (eM B f) (ow.set f o) pr,i6 bt bp o bf bg n,frC bf n (fr.set p f)]):=by
 refine bL func156 rfl ntmps156 rfl hi ?_;refine eu ?_;refine ZSe (fun w hi=>Hb bt bp o bf bg n p w (hi.get Zh)) ?_;rw[aB hp];refine Z_3 ?_;refine bV rfl (rfl) ?_;refine Z_7 ?_;refine ZSe (fun w hi=>ku bt bp o bf bg n p fr (-1) hp hf w (hi.get Zh) (hi.get Zh)) ?_;refine gQ ?_;refine bV rfl (rfl) ?_;refine Z_3 ?_;refine bX ⟨fun j=>List.elem j [8],[]⟩ Zk ?_;refine ZE 0 ?_;refine ZE 1 ?_;refine ZFe 2 0 ?_;refine ZG 3 ?_;refine ZE 4 ?_;refine ZE 5 ?_;refine ZFe 6 1 ?_;refine ZG 7 ?_;refine cw 8 Zk ?_;refine ZcA ([eZ bp B ow pr]) (fun w hi hin=>take_ok bp B ow pr hl o ho n hn (by omega) f0 h16 h256 hf0 w hin) ?_;rintro _ _ ⟨_,⟨f,hf1,hf2,hf3,rfl,rfl⟩,rfl⟩;refine ZE 9 ?_;refine ZE 10 ?_;refine ZE 11 ?_;refine ZE 12 ?_;refine ZE 13 ?_;refine bN Zk ?_;refine Z_8 ?_;refine cn rfl (rfl) ?_;refine Z_7 ?_;refine Zy (cC (j:=p) (sz:=1) (r:=p) rfl Zrf (Zv rfl) (Zv rfl) (fun _=>by omega) (fun _=>by omega) (by omega)) ?_;refine dy (fL Zrf rfl rfl rfl Za (by omega)) ?_;rintro _ _ ⟨rfl,rfl⟩;rw[fX];refine eu ?_;refine ft (cs':=[row _ _ _,row _ _ _,slv _ _ _ _ _ _]) (.inl rfl) Zu rfl rfl rfl ?_;exact⟨f,hf1,hf2,hf3,rfl,rfl⟩
end Go.Proofs.YtakodpimdalajaaGreatDoor
namespace Go.Ink
open Go.RowKit
def gB(d:List Int)(a:Nat):Int:=d.getD a 0
theorem DA{d:List Int}{a:Nat}(h:a<d.length):d[a]? =some (gB d a):=by simp[gB,h]
theorem jJ{d:List Int}(h:u8s d)(a:Nat):0≤gB d a∧gB d a≤255:=by
 unfold gB;by_cases hl:a<d.length
 ·rw[aw,ao hl];exact h _ (List.getElem_mem hl)
 rw[aw,List.getElem?_eq_none (by omega)];simp
def pM(d:List Int)(a:Nat):Nat→Int
 |0=>0
 |k+1=>pM d a k*256+gB d (a+(3 - k))
def qs(d:List Int)(a:Nat):Int:=gB d a+256*gB d (a+1)+65536*gB d (a+2)+16777216*gB d (a+3)
theorem zJ(d:List Int)(a:Nat):pM d a 4=qs d a:=by
 simp[pM,qs];omega
theorem vn{d:List Int}(h:u8s d)(a:Nat):∀k,0≤pM d a k∧pM d a k<256^k
 |0=>by simp[pM]
 |k+1=>by
  have h1:=vn h a k;have h2:=jJ h (a+(3 - k));simp only[pM,Int.pow_succ];omega
theorem sA{d:List Int}(h:u8s d)(a:Nat):u32 (qs d a):=by
 have h1:=jJ h a;have h2:=jJ h (a+1);have h3:=jJ h (a+2);have h4:=jJ h (a+3);unfold qs;exact⟨by omega,by omega⟩
theorem zI{d:List Int}(h:u8s d)(a:Nat){k:Nat}(hk:k<4):bits .or .u32 (IntKind.u32.wrap (pM d a k*2^(min (8:Int).toNat IntKind.u32.bits))) (gB d (a+(3 - k)))=pM d a (k+1):=by
 have h1:=vn h a k;have h2:=jJ h (a+(3 - k));simp only[pM];generalize pM d a k=v at h1;have hv:0≤v∧v<16777216:=by
  obtain rfl|rfl|rfl|rfl:k=0∨k=1∨k=2∨k=3:=by omega
  all_goals (simp at h1;omega)
 have e1:(2:Int)^(min (8:Int).toNat IntKind.u32.bits)=256:=rfl;rw[e1,u32_wrap_id _ (by omega) (by omega)];exact bits_join .u32 32 (by decide) wraps_u32 8 (v*256) _ (by omega) (by omega) (by omega) (by omega) (by omega) (by omega)
def qw(v:Int)(k:Nat):Int:=v/256^k%256
theorem nl(v:Int)(k:Nat):0≤qw v k∧qw v k≤255:=by unfold qw;omega
theorem vm(v:Int){k:Nat}(hk:k<4):IntKind.u8.wrap (v.fdiv (2^(min (IntKind.u32.wrap (8*(k:Int))).toNat IntKind.u32.bits)))=qw v k:=by
 have e:∀n:Nat,v.fdiv (2^n)=v/2^n:=fun n=>Int.fdiv_eq_ediv_of_nonneg v (by exact Int.le_of_lt (Int.pow_pos (by decide)))
 rw[e,IntKind.wrap_u8];unfold qw;obtain rfl|rfl|rfl|rfl:k=0∨k=1∨k=2∨k=3:=by omega
 all_goals rfl
def Mem.IZ(M:Mem)(a:Nat)(v:Int):Nat→Mem
 |0=>M
 |k+1=>(Mem.IZ M a v k).put (a+k) (qw v k)
def Mem.IK(M:Mem)(a:Nat)(v:Int):Mem:=M.IZ a v 4
def Mem.fill(M:Mem)(a:Nat)(l:List Int):Nat→Mem
 |0=>M
 |k+1=>(Mem.fill M a l k).put (a+k) (gB l k)
end Go.Ink
namespace Go.Proofs.YtakodpimdalajaaGreatDoor
open Go.RowKit Go.Ink Go.Proofs.Tryz
attribute [local irreducible] OpY bU
theorem mi(L:gR)(M:Mem)(w:World)(h:(eL L M).ok w):Ctr prog 64 [.pointer (some ⟨L.bm,0,none⟩)] w [] (fun v cs=>v= .int .u32 (L.n*64:Nat)∧cs=[]):=by
 obtain⟨k,hr,h1,h2,h3,h4⟩:=nQ h;have n64:=hr.n64;refine bL func64 rfl ntmps64 rfl (Inv.start w) ?_;refine eJ ?_;refine dX (bO Zrf (Zv rfl)) (dL (by assumption) rfl) rfl ?_;refine ZSe (fun w hi=>qe L.bt L.bp L.o L.bf L.bg L.n w (bJ.old h2 hi)) ?_;refine Zy (ce rfl rfl Zv0 rfl) ?_;refine Zy (iH (Zv rfl) (Zv rfl) (show IntKind.u32.wrap ((IntKind.u32.wrap (L.n:Int))*64)=((L.n*64:Nat):Int) by rw[u32_wrap_id (L.n:Int) (by omega) (by omega),u32_wrap_id _ (by omega) (by omega)];omega)) ?_;refine Z_4 ?_;refine Zra ?_;exact⟨rfl,rfl⟩
theorem nD(a:Nat)(ha:a≤4294967295)(w:World):Ctr prog 101 [.int .u32 a] w [] (fun v cs=>v= .tuple #[.int .i64 (a/64:Nat),.int .i64 (a%64:Nat)]∧cs=[]):=by
 refine bL func101 rfl ntmps101 rfl (Inv.start w) ?_;refine Z_9 ?_;refine Zy (kb (Zv rfl) (Zv rfl) (by omega) (show _=((a/64:Nat):Int)from by rw[bC (by omega),u32_wrap_id _ (by omega) (by omega)];omega)) ?_;refine Zy (ce rfl rfl Zv0 Zl) ?_;refine ZA ?_;refine Zy (kp (Zv rfl) (Zv rfl) (by omega) (show _=((a%64:Nat):Int)from by rw[aW (by omega)];omega)) ?_;refine Zy (ce rfl rfl Zv0 Zl) ?_;refine Z_5 ?_;refine ft (cs':=[]) (.inl rfl) Zu rfl rfl rfl ?_;exact⟨rfl,rfl⟩
theorem sR(L:gR)(M:Mem)(a n:Nat)(ha:a≤4294967295)(hn:n≤1000)(w:World)(h:(eL L M).ok w):Ctr prog 47 [.pointer (some ⟨L.bm,0,none⟩),.int .u32 a,.int .i64 n] w [] (fun v cs=>v= .bool (decide (a+n≤L.n*64))∧cs=[]):=by
 obtain⟨k,hr,_⟩:=nQ h;have n64:=hr.n64;refine bL func47 rfl ntmps47 rfl (Inv.start w) ?_;refine Z_8 ?_;refine Zy (ce rfl rfl (Zv rfl) (by first|exact IntWalk.u64_in _ ⟨by omega,by omega⟩|exact rfl)) ?_;refine ZA ?_;refine Zy (ce rfl rfl (Zv rfl) (by first|exact IntWalk.u64_in _ ⟨by omega,by omega⟩|exact rfl)) ?_;refine Zy (cy (Zv rfl) (Zv rfl) (IntWalk.u64_in _ ⟨by omega,by omega⟩)) ?_;refine ZA ?_;refine ZSe (fun w hi=>mi L M w (bJ.old h hi)) ?_;refine Zy (ce rfl rfl (Zv rfl) (by first|exact IntWalk.u64_in _ ⟨by omega,by omega⟩|exact rfl)) ?_;refine Z_5 ?_;refine Zra ?_;rw[show decide ((a:Int)+n≤((L.n*64:Nat):Int))=decide (a+n≤L.n*64)from decide_eq_decide.2 (by omega)];exact⟨rfl,rfl⟩
theorem ry(f:Nat):rz (f:Int)= .tuple #[.int .i64 f,.bool true]:=by
 unfold rz;rw[show((f:Int)== -1)=false by rw[beq_eq_false_iff_ne];omega]
 rfl
theorem uh(L:gR)(M:Mem)(a:Nat)(ha:a<L.n*64)(w:World)(h:(eL L M).ok w):Ctr prog 48 [.pointer (some ⟨L.bm,0,none⟩),.int .u32 a] w [] (fun v cs=>v= .int .u8 (gB M.data a)∧cs=[]):=by
 obtain⟨k,hr,h1,h2,h3,h4⟩:=nQ h;have n64:=hr.n64;have hp:a/64<L.n:=by omega
 have hj:a%64<64:=by omega
 have hdl:=hr.dl;have hda:M.data[a/64*64+a%64]? =some (gB M.data a):=by rw[show a/64*64+a%64=a by omega];exact DA (by omega)
 rcases hr.Iq (a/64) hp with⟨f1,f2⟩|⟨f,f1,f2,f3,f4,f5⟩
 ·have hz:gB M.data a=0:=by have:=f2 (a%64) hj;rw[hda]at this;exact aG this
  rw[hz];refine bL func48 rfl ntmps48 rfl (Inv.start w) ?_;refine Z_8 ?_;refine ZSe (fun w hi=>nD a (by omega) w) ?_;refine gQ ?_;refine dX (bO Zrf (Zv rfl)) (dL (by assumption) rfl) rfl ?_;refine ZA ?_;refine ZSe (fun w hi=>ku L.bt L.bp L.o L.bf L.bg L.n (a/64) k.fr (-1) hp f1 w (bJ.old h2 hi) (bJ.old h3 hi)) ?_;refine iG ?_;refine cn rfl (rfl) ?_;refine Z_7 ?_;refine Zra ?_;exact⟨rfl,rfl⟩
 have hb:k.B[f*64+a%64]? =some (gB M.data a):=by rw[f5 _ hj,hda]
 refine bL func48 rfl ntmps48 rfl (Inv.start w) ?_;refine Z_8 ?_;refine ZSe (fun w hi=>nD a (by omega) w) ?_;refine gQ ?_;refine dX (bO Zrf (Zv rfl)) (dL (by assumption) rfl) rfl ?_;refine ZA ?_;refine ZSe (fun w hi=>ku L.bt L.bp L.o L.bf L.bg L.n (a/64) k.fr f hp f1 w (bJ.old h2 hi) (bJ.old h3 hi)) ?_;rw[ry];refine iG ?_;refine bV rfl (rfl) ?_;refine Z_7 ?_;refine dX (bO Zrf (Zv rfl)) (dL (by assumption) rfl) rfl ?_;refine Z_2 ?_;refine ZSe (fun w hi=>Fz L.bp k.B k.ow k.pr hr.pl f (a%64) L.o _ f2 f3 f4 (by omega) hj hb w (bJ.old h1 hi)) ?_;refine iG ?_;refine Zra ?_;exact⟨rfl,rfl⟩
theorem rput_in(L:gR)(M:Mem)(a:Nat)(ha:a<L.n*64)(b:Int)(hb:0≤b∧b≤255)(w:World)(k:MemK)(hr:fC L M k)(hi:Inv w (bK (Bg L M.Ii k)) (Bg L M.Ii k) w):
  Ctr prog 118 [.pointer (some ⟨L.bm,0,none⟩),.int .u32 a,.int .u8 b] w (Bg L M.Ii k) (fun v cs=>v= .bool true∧∃k',fC L (M.put a b) k'∧cs=Bg L (M.put a b).Ii k'):=by
 have n64:=hr.n64;have o4:=hr.o4;have hp:a/64<L.n:=by omega
 have hj:a%64<64:=by omega
 have hdl:=hr.dl;have htl:=hr.tl;have ea:a/64*64+a%64=a:=by omega
 obtain⟨hb0,hb1⟩:=hb;have his:∀w0 S w,Inv w0 S (Bg L M.Ii k) w→(eL L M).ok w:=fun w0 S w hi=>(hi.IV (rest:=[]) (bs:=[L.bp,L.bt,L.bf,L.bg,L.bm]) (F:=Bg L M.Ii) (hb:=fun _=>rfl) (p:=fC L M) k hr).ok _ (List.mem_cons_self ..)
 rcases hr.Iq (a/64) hp with⟨f1,f2⟩|⟨f,f1,f2,f3,f4,f5⟩
 ·by_cases hb0':b=0
  ·subst hb0';have hfin:=hr.put0 hj hp f1;rw[ea]at hfin;refine bL func118 rfl ntmps118 rfl hi ?_;unfold Bg at his⊢;refine eJ ?_;refine ZSe (fun w hi=>sR L M a 1 (by omega) (by omega) w (his _ _ w hi)) ?_;rw[aB (show a+1≤L.n*64 by omega)];refine Z_3 ?_;refine bV rfl (rfl) ?_;refine Z_5 ?_;refine ZSe (fun w hi=>nD a (by omega) w) ?_;refine iG ?_;refine ZSe (fun w hi=>ku L.bt L.bp L.o L.bf L.bg L.n (a/64) k.fr (-1) hp f1 w (hi.get Zh) (hi.get Zh)) ?_;refine w8 ?_;refine bV rfl (rfl) ?_;refine Z_8 ?_;refine Zy (dw (j:=(a/64)) (sz:=1) (r:=2+a/64) rfl Zrf (Zv rfl) (Zv rfl) (fun _=>by omega) (fun _=>by omega) (by omega)) ?_;refine dy (dF Zrf rfl rfl rfl Za (by rw[j6 htl];omega)) ?_;rintro _ _ ⟨rfl,rfl⟩;rw[lJ (by omega)];refine iG ?_;refine dk (cD rfl rfl) rfl rfl ?_;refine Zy (y_or (q:=false) (Zv rfl) ⟨_,rfl,fun _ e=>by simp at e⟩) ?_;refine Z_4 ?_;refine Zrb ([row _ _ _,row _ _ _,slv _ _ _ _ _ _,slv _ _ _ _ _ _,row _ _ _]) ?_;exact⟨rfl,k,hfin,rfl⟩
  obtain⟨f0,g1,g2,g3⟩:=hr.free;refine bL func118 rfl ntmps118 rfl hi ?_;unfold Bg at his⊢;refine eJ ?_;refine ZSe (fun w hi=>sR L M a 1 (by omega) (by omega) w (his _ _ w hi)) ?_;rw[aB (show a+1≤L.n*64 by omega)];refine Z_3 ?_;refine bV rfl (rfl) ?_;refine Z_5 ?_;refine ZSe (fun w hi=>nD a (by omega) w) ?_;refine iG ?_;refine ZSe (fun w hi=>ku L.bt L.bp L.o L.bf L.bg L.n (a/64) k.fr (-1) hp f1 w (hi.get Zh) (hi.get Zh)) ?_;refine w8 ?_;refine cn rfl ((by rw[show(b !=0)=true by simp[hb0']];rfl)) ?_;refine eJ ?_;refine ZFa 66 ?_;refine dX (bO Zrf Zv0) (bS (o:=66) Zh (qW htl)) rfl ?_;refine Z_2 ?_;refine bV rfl (rfl) ?_;refine eJ ?_;refine ZcL ([i6 L.bt L.bp L.o L.bf L.bg L.n,frC L.bf L.n k.fr,eZ L.bp k.B k.ow k.pr]) (fun w hi hin=>tmap_ok L.bt L.bp L.o L.bf L.bg L.n (a/64) k.B k.ow k.pr k.fr hr.pl o4 hr.prom (hr.heldLt f1) f0 g1 g2 g3 hp f1 w hin) ?_;rintro _ _ ⟨_,⟨f,m1,m2,m3,rfl,rfl⟩,rfl⟩;have hmap:=hr.map hp f1 m1 m2 m3;have hfin:=hmap.putF (j:=a%64) (b:=b) (f:=f) hj ⟨hb0,hb1⟩ (show(k.fr.set (a/64) (f:Int))[a/64]? =_ by rw[List.getElem?_set,if_pos rfl,if_pos (by rw[hr.fr];exact hp)]);rw[ea]at hfin;have hpl':=hmap.pl;refine jT ?_;refine bV rfl (rfl) ?_;refine gQ ?_;refine Zy (dw (j:=(a/64)) (sz:=1) (r:=2+a/64) rfl Zrf (Zv rfl) (Zv rfl) (fun _=>by omega) (fun _=>by omega) (by omega)) ?_;refine dy (dF Zrf rfl rfl rfl Za (by rw[j6 htl];omega)) ?_;rintro _ _ ⟨rfl,rfl⟩;rw[lJ (by omega)];refine iG ?_;refine jm (cD rfl rfl) rfl (dW ([eZ L.bp (eM k.B f) (k.ow.set f L.o) k.pr]) rfl (fun _ _=>rfl) Zi (fun w hi hin=>Ci L.bp (eM k.B f) (k.ow.set f L.o) k.pr hpl' f (a%64) L.o b m1 m2 (show(k.ow.set f (L.o:Int))[f]? =some (L.o:Int) by rw[List.getElem?_set,if_pos rfl,if_pos (by rw[hr.pl.ow];exact m2)]) (by omega) hj w hin)) rfl ?_;rintro _ _ ⟨_,⟨rfl,rfl⟩,rfl⟩;refine Z_5 ?_;refine bP [eZ L.bp ((eM k.B f).set (f*64+a%64) b) (k.ow.set f L.o) k.pr,i6 L.bt L.bp L.o L.bf L.bg L.n,frC L.bf L.n (k.fr.set (a/64) f),gdC L.bg L.n k.gd,v4 L (M.Ii.set (a/64) true)] Zj ?_;refine Zrb ([row _ _ _,row _ _ _,slv _ _ _ _ _ _,slv _ _ _ _ _ _,row _ _ _]) ?_;exact⟨rfl,_,hfin,rfl⟩
 have hfin:=hr.putF (j:=a%64) (b:=b) hj ⟨hb0,hb1⟩ f1;rw[ea]at hfin;refine bL func118 rfl ntmps118 rfl hi ?_;unfold Bg at his⊢;refine eJ ?_;refine ZSe (fun w hi=>sR L M a 1 (by omega) (by omega) w (his _ _ w hi)) ?_;rw[aB (show a+1≤L.n*64 by omega)];refine Z_3 ?_;refine bV rfl (rfl) ?_;refine Z_5 ?_;refine ZSe (fun w hi=>nD a (by omega) w) ?_;refine iG ?_;refine ZSe (fun w hi=>ku L.bt L.bp L.o L.bf L.bg L.n (a/64) k.fr f hp f1 w (hi.get Zh) (hi.get Zh)) ?_;rw[ry];refine w8 ?_;refine bV rfl (rfl) ?_;refine Z_8 ?_;refine Zy (dw (j:=(a/64)) (sz:=1) (r:=2+a/64) rfl Zrf (Zv rfl) (Zv rfl) (fun _=>by omega) (fun _=>by omega) (by omega)) ?_;refine dy (dF Zrf rfl rfl rfl Za (by rw[j6 htl];omega)) ?_;rintro _ _ ⟨rfl,rfl⟩;rw[lJ (by omega)];refine iG ?_;refine jm (cD rfl rfl) rfl (dW ([eZ L.bp k.B k.ow k.pr]) rfl (fun _ _=>rfl) Zi (fun w hi hin=>Ci L.bp k.B k.ow k.pr hr.pl f (a%64) L.o b f2 f3 f4 (by omega) hj w hin)) rfl ?_;rintro _ _ ⟨_,⟨rfl,rfl⟩,rfl⟩;refine Z_5 ?_;refine bP [eZ L.bp (k.B.set (f*64+a%64) b) k.ow k.pr,i6 L.bt L.bp L.o L.bf L.bg L.n,frC L.bf L.n k.fr,gdC L.bg L.n k.gd,v4 L (M.Ii.set (a/64) true)] Zj ?_;refine Zrb ([row _ _ _,row _ _ _,slv _ _ _ _ _ _,slv _ _ _ _ _ _,row _ _ _]) ?_;exact⟨rfl,_,hfin,rfl⟩
end Go.Proofs.YtakodpimdalajaaGreatDoor
namespace Go.Ink
open Go.RowKit
def cpy(d:List Int)(o n k:Nat):List Int:=(List.range k).map (fun j=>gB d (o+j))++List.replicate (n - k) 0
theorem zj(d:List Int)(o n:Nat):cpy d o n 0=List.replicate n 0:=by simp[cpy]
theorem D6(d:List Int)(o:Nat){n k:Nat}(h:k<n):(cpy d o n k).set k (gB d (o+k))=cpy d o n (k+1):=by
 unfold cpy;rw[List.set_append_right _ _ (by simp),List.length_map,List.length_range,Nat.sub_self,show n - k=(n - (k+1))+1 by omega,List.replicate_succ,List.set_cons_zero,List.range_succ,List.map_append,aq]
 rfl
theorem D7{d:List Int}{o n:Nat}(h:o+n≤d.length):cpy d o n n=(d.drop o).take n:=by
 unfold cpy;rw[Nat.sub_self,List.replicate_zero,ay];apply List.ext_getElem?;intro j;rw[aZ,List.getElem?_take,List.getElem?_drop];by_cases hj:j<n
 ·rw[List.getElem?_range hj,if_pos hj,DA (by omega)]
  rfl
 rw[List.getElem?_eq_none (by simp;omega),if_neg hj]
 rfl
def iw(tu:List Bool)(k:Nat):List Int:=((List.range k).filter (fun f=>tu.getD f false)).map (fun f:Nat=>(f:Int))
theorem sH(tu:List Bool)(k:Nat):iw tu (k+1)=iw tu k++(bif tu.getD k false then[(k:Int)]else[]):=by
 unfold iw;rw[List.range_succ,List.filter_append,List.map_append];congr 1;cases h:tu.getD k false<;>simp only[List.filter_cons,h,List.filter_nil,if_true,List.map_cons,List.map_nil,ac,aa,Bool.false_eq_true,if_false]
theorem EL(tu:List Bool)(k:Nat):(iw tu k).length≤k:=by
 unfold iw;rw[List.length_map];exact a9 (List.length_filter_le _ _) (by simp)
theorem A0{l:List Bool}{j:Nat}(h:j<l.length):(lf l)[j]? =some (.bool (l.getD j false)):=by
 apply zo;simp[h]
theorem wD(M:Mem)(l:List Int):∀k,k≤l.length→l.length≤M.data.length→(M.fill 0 l k).data=l.take k++M.data.drop k
 |0,_,_=>by simp[Mem.fill]
 |k+1,h,h2=>by
  have ih:=wD M l k (by omega) h2;rw[Mem.fill];show(M.fill 0 l k).data.set (0+k) (gB l k)=_;rw[ih,bl,List.set_append_right _ _ (by rw[aF];omega),aF,show k - min k l.length=0 by omega];have e1:M.data.drop k=M.data[k]'(by omega)::M.data.drop (k+1):=List.drop_eq_getElem_cons (by omega);have e2:l.take (k+1)=l.take k++[gB l k]:=by
   rw[List.take_add_one,DA (by omega)]
   rfl
  rw[e1,List.set_cons_zero,e2,aq]
  rfl
def Mem.init(n:Nat)(b:List Int):Mem:=⟨b++List.replicate (n*64 - b.length) 0,List.replicate 64 false⟩
theorem Mem.init_eq{n:Nat}{b:List Int}(h:b.length≤n*64):((Mem.new n).fill 0 b b.length).calm=Mem.init n b:=by
 unfold Mem.calm Mem.init;rw[wD _ _ _ (aS _) (by simp[Mem.new];exact h),bG];simp[Mem.new]
end Go.Ink
namespace Go.Proofs.YtakodpimdalajaaGreatDoor
open Go.RowKit Go.Ink Go.Proofs.Tryz
attribute [local irreducible] OpY bU
theorem ue(L:gR)(M:Mem)(a:Nat)(ha:a<L.n*64)(b:Int)(hb:0≤b∧b≤255)(w:World)(hi:Inv w (bK [eL L M]) [eL L M] w):
  Ctr prog 118 [.pointer (some ⟨L.bm,0,none⟩),.int .u32 a,.int .u8 b] w [eL L M] (fun v cs=>v= .bool true∧cs=[eL L (M.put a b)]):=
 ctr_E hi fun k hr hi'=>rput_in L M a ha b hb w k hr hi'
theorem lc{L:gR}{M:Mem}{w:World}(h:(eL L M).ok w):1≤L.n∧L.n≤64∧M.data.length=L.n*64∧u8s M.data∧M.Ii.length=64:=by
 obtain⟨k,hr,_⟩:=nQ h;exact⟨hr.n1,hr.n64,hr.dl,hr.db,hr.tl⟩
theorem yF(L:gR)(M:Mem)(a:Nat)(ha:a<L.n*64)(w:World)(h:(eL L M).ok w):Ctr prog 14 [.pointer (some ⟨L.bm,0,none⟩),.int .u32 a] w [] (fun v cs=>v= .tuple #[.int .u8 (gB M.data a),.bool true]∧cs=[]):=by
 obtain⟨n1,n64,_⟩:=lc h;refine bL func14 rfl ntmps14 rfl (Inv.start w) ?_;refine eu ?_;refine ZSe (fun w hi=>sR L M a 1 (by omega) (by omega) w (bJ.old h hi)) ?_;rw[aB (show a+1≤L.n*64 by omega)];refine Z_3 ?_;refine bV rfl (rfl) ?_;refine Z_6 ?_;refine ZSe (fun w hi=>uh L M a ha w (bJ.old h hi)) ?_;refine Z_5 ?_;refine ft (cs':=[]) (.inl rfl) Zu rfl rfl rfl ?_;exact⟨rfl,rfl⟩
def xe(L:gR)(M:Mem)(a:Nat):Value:=bif decide (a+4≤L.n*64)then .tuple #[.int .u32 (qs M.data a),.bool true]else .tuple #[.int .u32 0,.bool false]
theorem uc(L:gR)(M:Mem)(a:Nat)(ha:a≤4294967295)(w:World)(h:(eL L M).ok w):Ctr prog 247 [.pointer (some ⟨L.bm,0,none⟩),.int .u32 a] w [] (fun v cs=>v=xe L M a∧cs=[]):=by
 obtain⟨n1,n64,hdl,hdb,htl⟩:=lc h;refine bL func247 rfl ntmps247 rfl (Inv.start w) ?_;refine eu ?_;refine ZSe (fun w hi=>sR L M a 4 ha (by omega) w (bJ.old h hi)) ?_;refine Z_3 ?_;refine ZW ?_ ?_<;>intro hc1
 ·have hc:decide (a+4≤L.n*64)=false:=by simpa using hc1
  refine Z_8 ?_;refine ft (cs':=[]) (.inl rfl) Zu rfl rfl rfl ?_;unfold xe;rw[hc];exact⟨rfl,rfl⟩
 have hc:decide (a+4≤L.n*64)=true:=by simpa using hc1
 have hle:a+4≤L.n*64:=of_decide_eq_true hc;refine iG ?_;refine cG (fun i:Nat=>[(0,.pointer (some ⟨L.bm,0,none⟩)),(1,.int .u32 a),(6,.int .u32 (pM M.data a i)),(7,.int .u32 (4 - (i:Int)))]) (fun _=>[]) (fun i=>i≤4) (fun i=>4 - i) (0) ?_ ?_ ?_ ?_
 ·exact ax _
 ·exact Zwk
 ·exact Zu
 rintro i hik;refine Z_7 ?_;refine ZW ?_ ?_<;>intro hc5
 ·simp only[ap]at hc5;have hi4:i<4:=by omega
  have ha3:a+(3 - i)<L.n*64:=by omega
  refine Z_6 ?_;refine Zy (tS (Zv rfl) (Zv rfl) (by omega) rfl) ?_;refine Z_3 ?_;refine Zy (cy (Zv rfl) (Zv rfl) (u32_wrap_id _ (by omega) (by omega))) ?_;refine Zy (eT (Zv rfl) (Zv rfl) (show IntKind.u32.wrap ((a:Int)+(4 - (i:Int)) - 1)=((a+(3 - i):Nat):Int) by rw[u32_wrap_id _ (by omega) (by omega)];omega)) ?_;refine ZSe (fun w hi=>uh L M (a+(3 - i)) ha3 w (bJ.old h hi)) ?_;have hg:=jJ hdb (a+(3 - i));refine Zy (ce rfl rfl (Zv rfl) (by first|exact IntWalk.u32_in _ ⟨by omega,by omega⟩|exact rfl)) ?_;refine Zy (sb Zv0 Zv0 (zI hdb a hi4)) ?_;refine Z_6 ?_;refine Zy (eT (Zv rfl) (Zv rfl) (u32_wrap_id _ (by omega) (by omega))) ?_;refine Z_2 ?_;refine ez (i+1) ?_ ?_ ?_
  ·exact⟨by omega,by omega⟩
  ·exact Zwk
  exact Zu
 simp only[aj]at hc5;obtain rfl:i=4:=by omega
 refine jT ?_;refine ft (cs':=[]) (.inl rfl) Zu rfl rfl rfl ?_;unfold xe;rw[hc,zJ];exact⟨rfl,rfl⟩
theorem mP(L:gR)(M:Mem)(a:Nat)(v:Int)(ha:a+4≤L.n*64)(hv:u32 v)(w:World)(hi:Inv w (bK [eL L M]) [eL L M] w):
  Ctr prog 212 [.pointer (some ⟨L.bm,0,none⟩),.int .u32 a,.int .u32 v] w [eL L M] (fun v' cs=>v'= .bool true∧cs=[eL L (M.IK a v)]):=by
 obtain⟨n1,n64,hdl,hdb,htl⟩:=lc (hi.ok _ (List.mem_cons_self ..));refine bL func212 rfl ntmps212 rfl hi ?_;refine eJ ?_;refine ZSe (fun w hi=>sR L M a 4 (by omega) (by omega) w (hi.get Zh)) ?_;rw[aB ha];refine Z_3 ?_;refine bV rfl (rfl) ?_;refine iG ?_;refine cG (fun k:Nat=>[(0,.pointer (some ⟨L.bm,0,none⟩)),(1,.int .u32 a),(2,.int .u32 v),(7,.bool true),(13,.int .u32 (k:Int))]) (fun k=>[eL L (M.IZ a v k)]) (fun k=>k≤4) (fun k=>4 - k) (0) ?_ ?_ ?_ ?_
 ·exact ax _
 ·exact Zwk
 ·exact Zu
 rintro k hk;refine Z_6 ?_;refine ZW ?_ ?_<;>intro hc5
 ·simp only[ap]at hc5;have hk4:k<4:=by omega
  refine iG ?_;refine Zy (cy (Zv rfl) (Zv rfl) (show IntKind.u32.wrap ((a:Int)+(k:Int))=((a+k:Nat):Int) by rw[u32_wrap_id _ (by omega) (by omega)];omega)) ?_;refine Z_2 ?_;refine Zy (iH Zv0 Zv0 rfl) ?_;refine Zy (jw (Zv rfl) (Zv rfl) (by rw[aE];omega) rfl) ?_;refine Zy (ce rfl rfl Zv0 (vm v hk4)) ?_;refine ZcM ([eL L (M.IZ a v k)]) (fun w hi hin=>ue L (M.IZ a v k) (a+k) (by omega) (qw v k) (nl v k) w hin) ?_;refine Z_8 ?_;refine Zy (cy (Zv rfl) (Zv rfl) (u32_wrap_id _ (by omega) (by omega))) ?_;refine Z_2 ?_;refine ez (k+1) ?_ ?_ ?_
  ·exact⟨by omega,by omega⟩
  ·exact Zwk
  exact Zu
 simp only[aj]at hc5;obtain rfl:k=4:=by omega
 refine gQ ?_;refine Zrb ([exC _ _ _ _]) ?_;exact⟨rfl,rfl⟩
theorem ug(L:gR)(M:Mem)(p:Nat)(hp:p<L.n)(w:World)(h:(eL L M).ok w):Ctr prog 94 [.pointer (some ⟨L.bm,0,none⟩),.int .i64 p] w [] (fun v cs=>∃b,v= .tuple #[.slice (some ⟨b,0,none⟩) 64 64,.bool true]∧cs=[sl .u8 5 (some ⟨b,0,none⟩) 64 64 ((M.data.drop (p*64)).take 64)]):=by
 obtain⟨n1,n64,hdl,hdb,htl⟩:=lc h;obtain⟨k0,hr0,h1,h2,h3,h4⟩:=nQ h;refine bL func94 rfl ntmps94 rfl (Inv.start w) ?_;refine eu ?_;rw[aD (show¬(p:Int)<0 by omega)];refine Z_5 ?_;refine kK (cD rfl rfl) (bO Zrf (dQ rfl)) (dL (by assumption) rfl) rfl ?_;refine jm (cD rfl rfl) rfl (gU rfl (fun _ _=>rfl) (fun w hi=>qe L.bt L.bp L.o L.bf L.bg L.n w (bJ.old h2 hi))) rfl ?_;rintro _ _ ⟨_,⟨rfl,rfl⟩,rfl⟩;refine Z_4 ?_;refine bV rfl ((by rw[aD (show¬(L.n:Int)≤p by omega)];rfl)) ?_;refine Z_4 ?_;refine dJ (iJ (bytes:=1) (n:=64) rfl rfl rfl rfl rfl rfl rfl (by omega) (by simp only[maxLen];omega)) rfl ?_;rintro _ _ ⟨b19,rfl,rfl⟩;rw[jC,←zj M.data (p*64) 64];refine gQ ?_;refine cG (fun k:Nat=>[(0,.pointer (some ⟨L.bm,0,none⟩)),(1,.int .i64 p),(6,.slice (some ⟨b19,0,none⟩) 64 64),(21,.int .i64 64),(22,.int .i64 (k:Int))]) (fun k=>[sl .u8 5 (some ⟨b19,0,none⟩) 64 64 (cpy M.data (p*64) 64 k)]) (fun k=>k≤64) (fun k=>64 - k) (0) ?_ ?_ ?_ ?_
 ·exact ax _
 ·exact Zwk
 ·exact Zu
 rintro k hk;refine Z_6 ?_;refine ZW ?_ ?_<;>intro hc5
 ·simp only[ap]at hc5;have hpk:p*64+k<L.n*64:=by omega
  refine qo ?_;refine Zy (iH Zv0 Zv0 Zl) ?_;refine ZA ?_;refine Zy (cy Zv0 Zv0 Zl) ?_;refine Zy (ce rfl rfl (Zv rfl) (show IntKind.u32.wrap ((p:Int)*64+(k:Int))=((p*64+k:Nat):Int) by rw[u32_wrap_id _ (by omega) (by omega)];omega)) ?_;refine ZSe (fun w hi=>uh L M (p*64+k) hpk w (bJ.old h hi)) ?_;refine Zy (cC (j:=k) (sz:=1) (r:=k) rfl Zrf (Zv rfl) (Zv rfl) (fun _=>by omega) (fun _=>by omega) (by omega)) ?_;refine dy (fL Zrf rfl rfl rfl Za (by omega)) ?_;rintro _ _ ⟨rfl,rfl⟩;rw[fX,D6 _ _ (by omega)];refine Z_4 ?_;refine Zy (cy Zv0 Zv0 Zl) ?_;refine Z_2 ?_;refine ez (k+1) ?_ ?_ ?_
  ·exact⟨by omega,by omega⟩
  ·exact Zwk
  exact Zu
 simp only[aj]at hc5;obtain rfl:k=64:=by omega
 rw[D7 (by omega)];refine jT ?_;refine ft (cs':=[slv _ _ _ _ _ _]) (.inl rfl) Zu rfl rfl rfl ?_;exact⟨b19,rfl,rfl⟩
theorem xw(L:gR)(M:Mem)(p:Nat)(hp:p<L.n)(A:Option Addr)(c:Nat)(l:List Int)(hl:l.length=64)(hb:u8s l)(w:World)(hi:Inv w (bK [eL L M]) [eL L M] w)(hrd:∀w',dR (bK [eL L M]) w w'→Rd w' .u8 A 64 c l):
  Ctr prog 279 [.pointer (some ⟨L.bm,0,none⟩),.int .i64 p,.slice A 64 c] w [eL L M] (fun v' cs=>v'= .bool true∧cs=[eL L (M.fill (p*64) l 64)]):=by
 obtain⟨n1,n64,hdl,hdb,htl⟩:=lc (hi.ok _ (List.mem_cons_self ..));have hrw:=hrd w (dR.refl _ _);obtain⟨ad,rfl⟩:=hrw.some_ (by omega);have hpg:∀w0 S cs w,Inv w0 S cs w→Has cs (eL L M)→Ctr prog 112 [.pointer (some ⟨L.bt,0,none⟩)] w [] (fun v cs=>v= .int .i64 L.n∧cs=[]):=fun w0 S cs w hi hc=>by
  obtain⟨k0,hr0,h1,h2,h3,h4⟩:=nQ (hi.get hc);exact qe L.bt L.bp L.o L.bf L.bg L.n w h2
 have hcell:∀w,Inv w (bK [eL L M]) [eL L M] w→True:=fun _ _=>trivial
 refine bL func279 rfl ntmps279 rfl hi ?_;refine eJ ?_;rw[aD (show¬(p:Int)<0 by omega)];refine Z_5 ?_;refine kK (cD rfl rfl) (bO Zrf (dQ rfl)) (fun w hi=>by obtain⟨k0,hr0,h1,h2,h3,h4⟩:=nQ (hi.get (show Has _ (eL L M)from Zh));exact dL (cs:=[]) h4 (show(ff L M.Ii)[1]? =some (.pointer (some ⟨L.bt,0,none⟩))from rfl) w (Inv.start w)) rfl ?_;refine jm (cD rfl rfl) rfl (gU rfl (fun _ _=>rfl) (fun w hi=>hpg _ _ _ w hi Zh)) rfl ?_;rintro _ _ ⟨_,⟨rfl,rfl⟩,rfl⟩;refine Z_9 ?_;refine bV rfl ((by rw[aD (show¬(L.n:Int)≤p by omega)];rfl)) ?_;refine qn ?_;refine cG (fun k:Nat=>[(0,.pointer (some ⟨L.bm,0,none⟩)),(1,.int .i64 p),(7,.bool true),(26,.slice (some ad) 64 c),(27,.int .i64 64),(28,.int .i64 (k:Int))]) (fun k=>[eL L (M.fill (p*64) l k)]) (fun k=>k≤64) (fun k=>64 - k) (0) ?_ ?_ ?_ ?_
 ·exact ax _
 ·exact Zwk
 ·exact Zu
 rintro k hk;refine Z_6 ?_;refine ZW ?_ ?_<;>intro hc5
 ·simp only[ap]at hc5;have hkl:k<l.length:=by omega
  have hbk:=jJ hb k;refine Z_7 ?_;refine Zy (dx (j:=k) rfl Zrf (Zv rfl) (Zv rfl) (fun _=>by omega) (fun _=>by omega)) ?_;refine dX (bO Zrf Zv0) (uo hrd (cZ (DA hkl))) rfl ?_;refine Z_7 ?_;refine Zy (iH Zv0 Zv0 Zl) ?_;refine ZA ?_;refine Zy (cy Zv0 Zv0 Zl) ?_;refine Zy (ce rfl rfl (Zv rfl) (show IntKind.u32.wrap ((p:Int)*64+(k:Int))=((p*64+k:Nat):Int) by rw[u32_wrap_id _ (by omega) (by omega)];omega)) ?_;refine ZA ?_;refine ZcM ([eL L (M.fill (p*64) l k)]) (fun w hi hin=>ue L (M.fill (p*64) l k) (p*64+k) (by omega) (gB l k) hbk w hin) ?_;refine Z_8 ?_;refine Zy (cy Zv0 Zv0 Zl) ?_;refine Z_2 ?_;refine ez (k+1) ?_ ?_ ?_
  ·exact⟨by omega,by omega⟩
  ·exact Zwk
  exact Zu
 simp only[aj]at hc5;obtain rfl:k=64:=by omega
 refine gQ ?_;refine Zrb ([exC _ _ _ _]) ?_;exact⟨rfl,rfl⟩
theorem Fe(L:gR)(M:Mem)(A:Option Addr)(c:Nat)(l:List Int)(hl:l.length≤L.n*64)(hb:u8s l)(w:World)(hi:Inv w (bK [eL L M]) [eL L M] w)(hrd:∀w',dR (bK [eL L M]) w w'→Rd w' .u8 A l.length c l):
  Ctr prog 78 [.pointer (some ⟨L.bm,0,none⟩),.slice A l.length c] w [eL L M] (fun v' cs=>v'= .int .i64 0∧cs=[eL L (M.fill 0 l l.length)]):=by
 obtain⟨n1,n64,hdl,hdb,htl⟩:=lc (hi.ok _ (List.mem_cons_self ..));have hrw:=hrd w (dR.refl _ _);refine bL func78 rfl ntmps78 rfl hi ?_;refine eu ?_;refine ZSe (fun w hi=>mi L M w (hi.get Zh)) ?_;refine Zy (ce rfl rfl Zv0 Zl) ?_;refine Z_3 ?_;refine bV rfl ((aD (by omega))) ?_;refine eu ?_;refine cG (fun k:Nat=>[(0,.pointer (some ⟨L.bm,0,none⟩)),(13,.slice A l.length c),(14,.int .i64 l.length),(15,.int .i64 (k:Int))]) (fun k=>[eL L (M.fill 0 l k)]) (fun k=>k≤l.length) (fun k=>l.length - k) (0) ?_ ?_ ?_ ?_
 ·exact ax _
 ·exact Zwk
 ·exact Zu
 rintro k hk;refine Z_6 ?_;refine ZW ?_ ?_<;>intro hc4
 ·simp only[ap]at hc4;have hkl:k<l.length:=by omega
  have hbk:=jJ hb k;obtain⟨ad,rfl⟩:=hrw.some_ (by omega);refine Z_7 ?_;refine Zy (dx (j:=k) rfl Zrf (Zv rfl) (Zv rfl) (fun _=>by omega) (fun _=>by omega)) ?_;refine dX (bO Zrf Zv0) (uo hrd (cZ (DA hkl))) rfl ?_;refine Z_7 ?_;refine Zy (ce rfl rfl (Zv rfl) (show IntKind.u32.wrap (k:Int)=((0+k:Nat):Int) by rw[u32_wrap_id _ (by omega) (by omega)];omega)) ?_;refine ZA ?_;refine ZcM ([eL L (M.fill 0 l k)]) (fun w hi hin=>ue L (M.fill 0 l k) (0+k) (by omega) (gB l k) hbk w hin) ?_;refine Z_4 ?_;refine Zy (cy Zv0 Zv0 Zl) ?_;refine Z_2 ?_;refine ez (k+1) ?_ ?_ ?_
  ·exact⟨by omega,by omega⟩
  ·exact Zwk
  exact Zu
 simp only[aj]at hc4;obtain rfl:k=l.length:=by omega
 refine eu ?_;refine Zrb ([exC _ _ _ _]) ?_;exact⟨rfl,rfl⟩
theorem rall_ok(L:gR)(M:Mem)(w:World)(h:(eL L M).ok w):Ctr prog 67 [.pointer (some ⟨L.bm,0,none⟩)] w [] (fun v cs=>∃b,v= .slice (some ⟨b,0,none⟩) M.data.length M.data.length∧cs=[sl .u8 5 (some ⟨b,0,none⟩) M.data.length M.data.length M.data]):=by
 obtain⟨n1,n64,hdl,hdb,htl⟩:=lc h;rw[hdl];refine bL func67 rfl ntmps67 rfl (Inv.start w) ?_;refine Z_8 ?_;refine ZSe (fun w hi=>mi L M w (bJ.old h hi)) ?_;refine dJ (iJ (bytes:=1) (n:=L.n*64) rfl rfl rfl rfl rfl rfl rfl (by omega) (by simp only[maxLen];omega)) rfl ?_;rintro _ _ ⟨b7,rfl,rfl⟩;rw[jC,←zj M.data 0 (L.n*64)];refine gQ ?_;refine cG (fun k:Nat=>[(0,.pointer (some ⟨L.bm,0,none⟩)),(3,.slice (some ⟨b7,0,none⟩) (L.n*64) (L.n*64)),(9,.int .i64 (L.n*64:Nat)),(10,.int .i64 (k:Int))]) (fun k=>[sl .u8 5 (some ⟨b7,0,none⟩) (L.n*64) (L.n*64) (cpy M.data 0 (L.n*64) k)]) (fun k=>k≤L.n*64) (fun k=>L.n*64 - k) (0) ?_ ?_ ?_ ?_
 ·exact ax _
 ·exact Zwk
 ·exact Zu
 rintro k hk;refine Z_6 ?_;refine ZW ?_ ?_<;>intro hc3
 ·simp only[ap]at hc3;have hpk:0+k<L.n*64:=by omega
  refine qo ?_;refine Zy (ce rfl rfl (Zv rfl) (show IntKind.u32.wrap (k:Int)=((0+k:Nat):Int) by rw[u32_wrap_id _ (by omega) (by omega)];omega)) ?_;refine ZSe (fun w hi=>uh L M (0+k) hpk w (bJ.old h hi)) ?_;refine Zy (cC (j:=k) (sz:=1) (r:=k) rfl Zrf (Zv rfl) (Zv rfl) (fun _=>by omega) (fun _=>by omega) (by omega)) ?_;refine dy (fL Zrf rfl rfl rfl Za (by omega)) ?_;rintro _ _ ⟨rfl,rfl⟩;rw[fX,D6 _ _ (by omega)];refine Z_4 ?_;refine Zy (cy Zv0 Zv0 Zl) ?_;refine Z_2 ?_;refine ez (k+1) ?_ ?_ ?_
  ·exact⟨by omega,by omega⟩
  ·exact Zwk
  exact Zu
 simp only[aj]at hc3;obtain rfl:k=L.n*64:=by omega
 rw[D7 (by omega),List.drop_zero,List.take_of_length_le (by omega)];refine gQ ?_;refine Zrb ([slv _ _ _ _ _ _]) ?_;exact⟨b7,rfl,rfl⟩
theorem sQ(L:gR)(M:Mem)(w:World)(h:(eL L M).ok w):Ctr prog 59 [.pointer (some ⟨L.bm,0,none⟩)] w [] (fun v cs=>∃A c,v= .slice A (iw M.Ii 64).length c∧cs=[sl .i64 3 A (iw M.Ii 64).length c (iw M.Ii 64)]):=by
 obtain⟨n1,n64,hdl,hdb,htl⟩:=lc h;obtain⟨k0,hr0,h1,h2,h3,h4⟩:=nQ h;refine bL func59 rfl ntmps59 rfl (Inv.start w) ?_;refine qn ?_;refine dX (cB (vs:=lf M.Ii) Zrf (fun w=>by rw[jR,htl];rfl) (Zv rfl)) (uD (o:=2) h4 v5) rfl ?_;refine dC 3 1 ?_;refine Z_4 ?_;refine cG (fun s:Nat×Option Addr×Nat=>[(0,.pointer (some ⟨L.bm,0,none⟩)),(3,.slice s.2.1 (iw M.Ii s.1).length s.2.2),(9,.agg (lf M.Ii).toArray),(10,.int .i64 (s.1:Int))]) (fun s=>[sl .i64 3 s.2.1 (iw M.Ii s.1).length s.2.2 (iw M.Ii s.1)]) (fun s=>s.1≤64) (fun s=>64 - s.1) ((0,none,0)) ?_ ?_ ?_ ?_
 ·exact ax _
 ·exact Zwk
 ·exact Zu
 rintro⟨k,A1,c1⟩ hk;simp only at hk;dsimp only;refine Z_6 ?_;refine ZW ?_ ?_<;>intro hc3
 ·simp only[ap]at hc3;have hle:=EL M.Ii k;refine Z_7 ?_;refine Zy (yd (j:=k) rfl Zrf Zrf (Zv rfl) (Zv rfl) (fun _=>by omega) (fun _=>by omega) (fun _=>A0 (show k<M.Ii.length by omega))) ?_;refine Z_9 ?_;refine ZW ?_ ?_<;>intro hc5
  ·have he:iw M.Ii (k+1)=iw M.Ii k++[(k:Int)]:=by rw[sH,hc5];rfl
   refine Z_3 ?_;refine dJ (bZ rfl rfl Zrf Zrf rfl rfl) rfl ?_;rintro _ _ ⟨b17,rfl,rfl⟩;refine dJ (cW (e:=3) (sz:=1) (bytes:=8) rfl rfl Za rfl rfl (fun w hi=>hi.rd Zh) (iE rfl) (by simp only[maxLen];omega) (by omega)) rfl ?_;rintro _ _ ⟨A2,c2,rfl,rfl⟩;rw[show(iw M.Ii k).length+1=(iw M.Ii (k+1)).length by(rw[he];simp),show ints .i64 (iw M.Ii k)++[Value.int .i64 (k:Int)]=ints .i64 (iw M.Ii (k+1)) by(rw[he];exact cH _ [_])];refine Z_5 ?_;refine Zy (cy Zv0 Zv0 Zl) ?_;refine Z_2 ?_;refine ez ((k+1,A2,c2)) ?_ ?_ ?_
   ·exact⟨by show k+1≤64;omega,by show 64 - (k+1)<64 - k;omega⟩
   ·exact Zwk
   exact Zu
  have he:iw M.Ii (k+1)=iw M.Ii k:=by(rw[sH,hc5];simp)
  rw[←he];refine Z_4 ?_;refine Zy (cy Zv0 Zv0 Zl) ?_;refine Z_2 ?_;refine ez ((k+1,A1,c1)) ?_ ?_ ?_
  ·exact⟨by show k+1≤64;omega,by show 64 - (k+1)<64 - k;omega⟩
  ·exact Zwk
  exact Zu
 simp only[aj]at hc3;obtain rfl:k=64:=by omega
 refine gQ ?_;refine Zrb ([slv _ _ _ _ _ _]) ?_;exact⟨_,_,rfl,rfl⟩
theorem uq(L:gR)(M:Mem)(w:World)(hi:Inv w (bK [eL L M]) [eL L M] w):Ctr prog 80 [.pointer (some ⟨L.bm,0,none⟩)] w [eL L M] (fun v cs=>v= .tuple #[]∧cs=[eL L M.calm]):=by
 refine ctr_E hi fun k hr hi'=>?_
 have htl:=hr.tl;refine bL func80 rfl ntmps80 rfl hi' ?_;unfold Bg;refine Z_2 ?_;refine Zy (io (vs:=List.replicate 64 (Value.bool false)) Zk (.inr ⟨_,_,_,rfl,fun _=>rfl⟩)) ?_;refine Z_2 ?_;refine dy (jA (n:=64) Zrf rfl rfl (fun u hu=>by rw[List.eq_of_mem_replicate hu];rfl) Za (aM) (by rw[j6 htl,aM];omega)) ?_;rintro _ _ ⟨rfl,rfl⟩;rw[aM,uI htl];refine Zn (fE (cs':=[row _ _ _,row _ _ _,slv _ _ _ _ _ _,slv _ _ _ _ _ _,row _ _ _]) (.inr rfl) Zu rfl ?_);exact⟨rfl,k,hr.calm,rfl⟩
theorem rnew_ok(bp bt:Nat)(w:World):Ctr prog 77 [.pointer (some ⟨bp,0,none⟩),.pointer (some ⟨bt,0,none⟩)] w [] (fun v cs=>∃bm,v= .tuple #[.pointer (some ⟨bm,0,none⟩),.int .i64 0]∧cs=[v4 ⟨bp,bt,0,0,bm,0,0⟩ (List.replicate 64 false)]):=by
 refine bL func77 rfl ntmps77 rfl (Inv.start w) ?_;refine vg ?_;refine bV rfl (rfl) ?_;refine Z_7 ?_;refine ZO fun b15=>?_
 refine Z_5 ?_;refine ft (cs':=[row _ _ _]) (.inl rfl) Zu rfl rfl rfl ?_;exact⟨_,rfl,rfl⟩
end Go.Proofs.YtakodpimdalajaaGreatDoor
namespace Go.Ink
open Go.RowKit
structure TE where
 valid:Bool
 vpn:Int
 pfn:Int
 bits:Int
structure TE.wf(e:TE):Prop where
 vpn:u32 e.vpn
 pfn:u32 e.pfn
 bits:u32 e.bits
def TE.zero:TE:=⟨false,0,0,0⟩
def TE.cells(e:TE):List Value:=[.bool e.valid,.int .u32 e.vpn,.int .u32 e.pfn,.int .u32 e.bits]
def fc(T:List TE):List Value:=T.flatMap TE.cells
structure Tr where
 Ie:Int
 addr:Int
def Tr.none:Tr:=⟨0,0⟩
abbrev Tr.cells(t:Tr):List Value:=[.int .i64 t.Ie,.int .u32 t.addr]
abbrev Tr.v(t:Tr):Value:= .agg t.cells.toArray
abbrev TE.v(e:TE):Value:= .agg e.cells.toArray
theorem ic:∀T:List TE,(fc T).length=T.length*4
 |[]=>rfl
 |e::T=>by
  have:=ic T;simp only[fc]at this;simp[fc,TE.cells,this];omega
theorem jZ:∀{T:List TE} {i:Nat} {e:TE},T[i]? =some e→((fc T).drop (i*4)).take 4=e.cells
 |[],i,e,h=>by simp at h
 |x::T,0,e,h=>by
  simp only[List.getElem?_cons_zero,aR]at h;subst h
  rfl
 |x::T,i+1,e,h=>by
  simp only[List.getElem?_cons_succ]at h;have:=jZ h;simp only[fc,List.flatMap_cons]at this⊢;rw[show(i+1)*4=i*4+4 by omega,←List.drop_drop,show(TE.cells x++T.flatMap TE.cells).drop (i*4)=(TE.cells x++T.flatMap TE.cells).drop (i*4)from rfl];rw[List.drop_drop,show i*4+4=(TE.cells x).length+i*4 by simp[TE.cells];omega,←List.drop_drop,List.drop_left];exact this
theorem lw:∀{T:List TE} {i:Nat} (e:TE),i<T.length→(fc T).take (i*4)++e.cells++(fc T).drop (i*4+4)=fc (T.set i e)
 |[],i,e,h=>by simp at h
 |x::T,0,e,_=>by simp[fc,TE.cells]
 |x::T,i+1,e,h=>by
  have ih:=lw (T:=T) (i:=i) e (by simpa using h);simp only[fc,List.set_cons_succ,List.flatMap_cons]at ih⊢;have hl:(TE.cells x).length=4:=rfl;rw[show(i+1)*4=(TE.cells x).length+i*4 by rw[hl];omega,List.take_length_add_append,show(TE.cells x).length+i*4+4=(TE.cells x).length+(i*4+4) by omega,List.drop_length_add_append,aq,aq,←aq _ _ (List.drop _ _),ih]
def iy(b:Int)(If:Bool):Int:=bif If then b else bits .or .u32 b 16
def asked(kind:Int)(If:Bool):Int×Bool:=
 bif kind==1 then(iy 8 If,true)else bif kind==2 then(iy 2 If,true)else bif kind==3 then(iy 68 If,true)else(0,false)
def fault(kind:Int):Int:=bif kind==1 then 7 else bif kind==2 then 8 else bif kind==3 then 9 else 0
def nm(kind:Int)(If:Bool):Int:=
 iy (bif kind==1 then bits .or .u32 1 8 else bif kind==2 then bits .or .u32 1 2 else bif kind==3 then bits .or .u32 1 4 else 1) If
def xm(T:List TE)(va:Nat):TE:=T.getD (va/64%16) TE.zero
def mV(e:TE)(va:Nat)(a:Int×Bool):Bool:=((!a.2|| !e.valid)||(e.vpn !=((va/64:Nat):Int)))||(bits .and .u32 e.bits a.1 !=a.1)
def pE(pfn:Int)(va:Nat):Int:=IntKind.u32.wrap (IntKind.u32.wrap (pfn*64)+((va%64:Nat):Int))
def pN(T:List TE)(va:Nat)(kind:Int)(If:Bool):Int×Bool:=
 bif mV (xm T va) va (asked kind If)then(0,false)else(pE (xm T va).pfn va,true)
def BS(T:List TE)(e:TE):List TE:=bif e.valid then T.set (e.vpn.toNat%16) e else T
def sf(T:List TE)(va:Nat):List TE:=bif(xm T va).vpn==((va/64:Nat):Int)then T.set (va/64%16) TE.zero else T
def dM:List TE:=List.replicate 16 TE.zero
def jO(n:Nat)(d:List Int)(a:Nat):Option Int:=bif decide (a+4≤n*64)then some (qs d a)else none
def at1(root va:Nat):Nat:=root/64*64+4*(va/1024%16)
def at2(e:Int)(va:Nat):Nat:=(e/256).toNat*64+4*(va/64%16)
def xQ(n:Nat)(d:List Int)(va:Nat)(e:Int):Option (Nat×Int):=
 bif e%2==0 then none else(jO n d (at2 e va)).map fun l=>(at2 e va,l)
def lM(n:Nat)(d:List Int)(root va:Nat):Option (Nat×Int):=
 bif decide (16384≤va)then none else(jO n d (at1 root va)).bind (xQ n d va)
def lookV(r:Option (Nat×Int)):Value:=match r with|some (a,l)=> .tuple #[.int .u32 a,.int .u32 l,.bool true]|none=> .tuple #[.int .u32 0,.int .u32 0,.bool false]
def mJ(l:Int)(kind:Int):Int:=bif kind==3 then bits .or .u32 (bits .or .u32 l 32) 64 else bits .or .u32 l 32
def leafE(va:Nat)(l:Int):TE:=⟨true,((va/64:Nat):Int),l/256,bits .and .u32 l 94⟩
def gI(n:Nat)(M:Mem)(root va:Nat)(kind:Int)(If:Bool):(TE×Tr)×Mem:=
 bif fault kind==0 then((TE.zero,⟨10,va⟩),M)else
 match lM n M.data root va with
 |none=>((TE.zero,⟨fault kind,va⟩),M)
 |some (a,l)=>bif bits .and .u32 l (nm kind If) !=nm kind If then((TE.zero,⟨fault kind,va⟩),M)else
   ((leafE va (mJ l kind),Tr.none),bif mJ l kind !=l then M.IK a (mJ l kind)else M)
structure Mmu where
 m:Mem
 t:List TE
structure Sp where
 Il:Bool
 If:Bool
 root:Nat
abbrev Sp.v(s:Sp):Value:= .agg #[.bool s.Il,.bool s.If,.int .u32 (s.root:Int)]
def de(n:Nat)(U:Mmu)(s:Sp)(va:Nat)(kind:Int):(Int×Tr)×Mmu:=
 bif !s.Il then(((va:Int),Tr.none),U)else
 bif(pN U.t va kind s.If).2 then(((pN U.t va kind s.If).1,Tr.none),U)else
 bif(gI n U.m s.root va kind s.If).1.2.Ie !=0 then((0,(gI n U.m s.root va kind s.If).1.2),⟨(gI n U.m s.root va kind s.If).2,U.t⟩)else
 ((pE (gI n U.m s.root va kind s.If).1.1.pfn va,(gI n U.m s.root va kind s.If).1.2),⟨(gI n U.m s.root va kind s.If).2,BS U.t (gI n U.m s.root va kind s.If).1.1⟩)
def pQ(a:Int):Bool:=decide (32768≤a)&&decide (a<33024)
def cR(n:Nat)(U:Mmu)(s:Sp)(va:Nat)(kind:Int):(Int×Tr)×Mmu:=
 bif fault kind==0 then((0,⟨10,va⟩),U)else
 bif(de n U s va kind).1.2.Ie !=0 then((0,(de n U s va kind).1.2),(de n U s va kind).2)else
 bif(decide ((de n U s va kind).1.1<((n*64:Nat):Int))||((kind !=1)&&pQ (de n U s va kind).1.1))then de n U s va kind else((0,⟨10,va⟩),(de n U s va kind).2)
end Go.Ink
namespace Go.Proofs.YtakodpimdalajaaGreatDoor
open Go.RowKit Go.Ink Go.Proofs.Tryz
attribute [local irreducible] OpY bU
abbrev sd(bb:Nat)(T:List TE):bJ:=row bb (fc T) 222
theorem qc(v:Nat)(w:World):Ctr prog 208 [.int .u32 v] w [] (fun x cs=>x= .int .u32 (v%16:Nat)∧cs=[]):=by
 refine bL func208 rfl ntmps208 rfl (Inv.start w) ?_;refine Z_8 ?_;refine Zy (kp (Zv rfl) (Zv rfl) (by omega) (show _=((v%16:Nat):Int)from by rw[aW (by omega)];omega)) ?_;refine Z_4 ?_;refine Zra ?_;exact⟨rfl,rfl⟩
theorem BU(kind:Int)(If:Bool)(w:World):Ctr prog 209 [.int .i64 kind,.bool If] w [] (fun x cs=>x= .tuple #[.int .u32 (asked kind If).1,.bool (asked kind If).2]∧cs=[]):=by
 refine bL func209 rfl ntmps209 rfl (Inv.start w) ?_;refine mL ?_;refine Z_4 ?_;refine ZW ?_ ?_<;>intro hc4
 ·refine gQ ?_;refine ZW ?_ ?_<;>intro hc10
  ·have hs:If=false:=by simpa using hc10
   refine iG ?_;refine ft (cs':=[]) (.inl rfl) Zu rfl rfl rfl ?_;refine⟨?_,rfl⟩;simp only[asked,iy, *,ac,aa]
  have hs:If=true:=by simpa using hc10
  refine eJ ?_;refine ft (cs':=[]) (.inl rfl) Zu rfl rfl rfl ?_;refine⟨?_,rfl⟩;simp only[asked,iy, *,ac,aa]
 refine Z_6 ?_;refine ZW ?_ ?_<;>intro hc6
 ·refine gQ ?_;refine ZW ?_ ?_<;>intro hc10
  ·have hs:If=false:=by simpa using hc10
   refine iG ?_;refine ft (cs':=[]) (.inl rfl) Zu rfl rfl rfl ?_;refine⟨?_,rfl⟩;simp only[asked,iy, *,ac,aa]
  have hs:If=true:=by simpa using hc10
  refine eJ ?_;refine ft (cs':=[]) (.inl rfl) Zu rfl rfl rfl ?_;refine⟨?_,rfl⟩;simp only[asked,iy, *,ac,aa]
 refine Z_6 ?_;refine ZW ?_ ?_<;>intro hc8
 ·refine gQ ?_;refine ZW ?_ ?_<;>intro hc10
  ·have hs:If=false:=by simpa using hc10
   refine iG ?_;refine ft (cs':=[]) (.inl rfl) Zu rfl rfl rfl ?_;refine⟨?_,rfl⟩;simp only[asked,iy, *,ac,aa]
  have hs:If=true:=by simpa using hc10
  refine eJ ?_;refine ft (cs':=[]) (.inl rfl) Zu rfl rfl rfl ?_;refine⟨?_,rfl⟩;simp only[asked,iy, *,ac,aa]
 refine Z_9 ?_;refine ft (cs':=[]) (.inl rfl) Zu rfl rfl rfl ?_;refine⟨?_,rfl⟩;simp only[asked,iy, *,ac,aa]
theorem BO(w:World):Ctr prog 81 [] w [] (fun x cs=>∃bb,x= .pointer (some ⟨bb,0,none⟩)∧cs=[sd bb dM]):=by
 refine bL func81 rfl ntmps81 rfl (Inv.start w) ?_;refine Z_7 ?_;refine Zy (io (vs:=fc dM) Zk (.inl ⟨_,rfl,rfl⟩)) ?_;refine ZO fun b2=>?_
 refine Z_4 ?_;refine Zrb ([row _ _ _]) ?_;exact⟨_,rfl,rfl⟩
theorem ES(bb:Nat)(T:List TE)(hT:T.length=16)(va:Nat)(hva:va≤4294967295)(kind:Int)(If:Bool)(w:World)(h:(sd bb T).ok w):Ctr prog 158 [.pointer (some ⟨bb,0,none⟩),.int .u32 va,.int .i64 kind,.bool If] w [] (fun x cs=>x= .tuple #[.int .u32 (pN T va kind If).1,.bool (pN T va kind If).2]∧cs=[]):=by
 have hlt:va/64%16<T.length:=by omega
 have he:T[va/64%16]? =some (xm T va):=by simp[xm,hlt]
 obtain⟨e,hee⟩:=Zgn (xm T va);obtain⟨a,ha⟩:=Zgn (asked kind If);have hA:=BU kind If;unfold pN;rw[hee]at he⊢;rw[ha]at hA⊢;refine bL func158 rfl ntmps158 rfl (Inv.start w) ?_;refine Z_9 ?_;refine Zy (kb (Zv rfl) (Zv rfl) (by omega) (show _=((va/64:Nat):Int)from by rw[bC (by omega),u32_wrap_id _ (by omega) (by omega)];omega)) ?_;refine Z_4 ?_;refine bX ⟨fun j=>List.elem j [8],[]⟩ Zk ?_;refine ZE 0 ?_;refine ZE 1 ?_;refine ZE 3 ?_;refine ZFe 4 0 ?_;refine jY 2 7 Zk ?_ ?_
 ·refine ZT (fun w hi=>qc (va/64) w) ?_;rintro _ _ ⟨_,⟨rfl,rfl⟩,rfl⟩;refine cN 5 rfl Zk Zk Zk (dw (j:=(va/64%16)) (sz:=4) (r:=(va/64%16)*4) rfl Zrf (Zv rfl) (Zv rfl) (fun _=>by omega) (fun _=>by omega) (by omega)) rfl ?_;refine eX 6 rfl Zk Zk Zk Zk (cB (vs:=e.cells) Zrf Zrf Zv0) (uD (o:=(va/64%16)*4) h (jZ he)) rfl ?_;refine cw 7 Zk ?_;refine ZP fun b11=>?_
  refine cw 8 Zk ?_;refine ZR ?_;refine bN Zk ?_;refine Z_5 ?_;refine ZSe (fun w hi=>hA w) ?_;refine mL ?_;refine jT ?_;refine ZW ?_ ?_<;>intro hc4
  ·have hc:mV e va a=true:=hc4;refine Z_8 ?_;refine ft (cs':=[]) (.inl rfl) Zu rfl rfl rfl ?_;rw[hc];exact⟨rfl,rfl⟩
  have hc:mV e va a=false:=hc4;refine Z_6 ?_;refine Zy (iH Zv0 Zv0 rfl) ?_;refine ZA ?_;refine Zy (kp (Zv rfl) (Zv rfl) (by omega) (show _=((va%64:Nat):Int)from by rw[aW (by omega)];omega)) ?_;refine Zy (cy Zv0 Zv0 rfl) ?_;refine Z_5 ?_;refine ft (cs':=[]) (.inl rfl) Zu rfl rfl rfl ?_;rw[hc];exact⟨rfl,rfl⟩
 refine ZP fun b11=>?_
 refine cw 2 Zk ?_;refine ZT (fun w hi=>qc (va/64) w) ?_;rintro _ _ ⟨_,⟨rfl,rfl⟩,rfl⟩;refine cN 5 rfl Zk Zk Zk (dw (j:=(va/64%16)) (sz:=4) (r:=(va/64%16)*4) rfl Zrf (Zv rfl) (Zv rfl) (fun _=>by omega) (fun _=>by omega) (by omega)) rfl ?_;refine eX 6 rfl Zk Zk Zk Zk (cB (vs:=e.cells) Zrf Zrf Zv0) (uD (o:=(va/64%16)*4) h (jZ he)) rfl ?_;refine cw 8 Zk ?_;refine ZR ?_;refine bN Zk ?_;refine Z_5 ?_;refine ZSe (fun w hi=>hA w) ?_;refine mL ?_;refine jT ?_;refine ZW ?_ ?_<;>intro hc4
 ·have hc:mV e va a=true:=hc4;refine Z_8 ?_;refine ft (cs':=[]) (.inl rfl) Zu rfl rfl rfl ?_;rw[hc];exact⟨rfl,rfl⟩
 have hc:mV e va a=false:=hc4;refine Z_6 ?_;refine Zy (iH Zv0 Zv0 rfl) ?_;refine ZA ?_;refine Zy (kp (Zv rfl) (Zv rfl) (by omega) (show _=((va%64:Nat):Int)from by rw[aW (by omega)];omega)) ?_;refine Zy (cy Zv0 Zv0 rfl) ?_;refine Z_5 ?_;refine ft (cs':=[]) (.inl rfl) Zu rfl rfl rfl ?_;rw[hc];exact⟨rfl,rfl⟩
theorem ET(bb:Nat)(T:List TE)(hT:T.length=16)(e:TE)(he:e.wf)(w:World)(hi:Inv w (bK [sd bb T]) [sd bb T] w):Ctr prog 160 [.pointer (some ⟨bb,0,none⟩),e.v] w [sd bb T] (fun x cs=>x= .bool e.valid∧cs=[sd bb (BS T e)]):=by
 obtain⟨v0,v1⟩:=he.vpn;obtain⟨vp,hvp⟩:=ar v0;obtain⟨ev,evpn,epfn,eb⟩:=e;simp only at hvp v0 v1;subst hvp;refine bL func160 rfl ntmps160 rfl hi ?_;refine Z_2 ?_;refine ZO fun b3=>?_;refine eJ ?_;refine ZW ?_ ?_<;>intro hc1
 ·have hv:ev=true:=hc1;subst hv;refine bX ⟨fun j=>List.elem j [8],[]⟩ Zk ?_;refine ZE 0 ?_;refine ZFe 1 1 ?_;refine ZG 2 ?_;refine ZI 4 ?_;refine ZE 5 ?_;refine ZFe 6 0 ?_;refine cw 3 Zk ?_;refine ZT (fun w hi=>qc vp w) ?_;rintro _ _ ⟨_,⟨rfl,rfl⟩,rfl⟩;refine cN 7 rfl Zk Zk Zk (dw (j:=(vp%16)) (sz:=4) (r:=(vp%16)*4) rfl Zrf (Zv rfl) (Zv rfl) (fun _=>by omega) (fun _=>by omega) (by omega)) rfl ?_;refine cw 8 Zk ?_;refine dz rfl rfl (jA (n:=4) (vs:=TE.cells ⟨true,(vp:Int),epfn,eb⟩) Zrf rfl rfl (iE rfl) Za rfl (by rw[ic];simp only[TE.cells,ai,ak];omega)) ZJ ?_;rintro _ _ ⟨rfl,rfl⟩;rw[show(TE.cells ⟨true,(vp:Int),epfn,eb⟩).length=4 from rfl,lw (T:=T) (i:=vp%16) ⟨true,(vp:Int),epfn,eb⟩ (by omega)];refine bN Zk ?_;refine Z_9 ?_;refine Zrb ([row _ _ _]) ?_;exact⟨rfl,rfl⟩
 have hv:ev=false:=hc1;subst hv;refine eJ ?_;refine Zrb ([row _ _ _]) ?_;exact⟨rfl,rfl⟩
theorem EU(bb:Nat)(T:List TE)(hT:T.length=16)(va:Nat)(hva:va≤4294967295)(w:World)(hi:Inv w (bK [sd bb T]) [sd bb T] w):Ctr prog 253 [.pointer (some ⟨bb,0,none⟩),.int .u32 va] w [sd bb T] (fun x cs=>x= .tuple #[]∧cs=[sd bb (sf T va)]):=by
 have hlt:va/64%16<T.length:=by omega
 have he:T[va/64%16]? =some (xm T va):=by simp[xm,hlt]
 have hcell:(fc T)[(va/64%16)*4+1]? =some (.int .u32 (xm T va).vpn):=by
  have h1:=jZ he;have h2:(((fc T).drop ((va/64%16)*4)).take 4)[1]? =some (.int .u32 (xm T va).vpn):=by rw[h1];rfl
  rw[List.getElem?_take,if_pos (by omega),List.getElem?_drop]at h2;exact h2
 unfold sf;obtain⟨e,hee⟩:=Zgn (xm T va);rw[hee]at hcell⊢;refine bL func253 rfl ntmps253 rfl hi ?_;refine Z_3 ?_;refine Zy (kb (Zv rfl) (Zv rfl) (by omega) (show _=((va/64:Nat):Int)from by rw[bC (by omega),u32_wrap_id _ (by omega) (by omega)];omega)) ?_;refine Z_4 ?_;refine bX ⟨fun j=>List.elem j [],[]⟩ Zk ?_;refine ZE 0 ?_;refine ZE 1 ?_;refine ZE 3 ?_;refine ZFe 4 0 ?_;refine cw 2 Zk ?_;refine ZT (fun w hi=>qc (va/64) w) ?_;rintro _ _ ⟨_,⟨rfl,rfl⟩,rfl⟩;refine cN 5 rfl Zk Zk Zk (dw (j:=(va/64%16)) (sz:=4) (r:=(va/64%16)*4) rfl Zrf (Zv rfl) (Zv rfl) (fun _=>by omega) (fun _=>by omega) (by omega)) rfl ?_;refine ZE 6 ?_;refine bN Zk ?_;refine Z_6 ?_;refine dX (bO Zrf Zv0) (bS Zh hcell) rfl ?_;refine Z_4 ?_;refine ZW ?_ ?_<;>intro hc2
 ·rw[hc2];refine Z_4 ?_;refine dy (jA (n:=4) (vs:=TE.zero.cells) Zrf rfl rfl (iE rfl) Za rfl (by rw[ic];simp only[TE.cells,ai,ak];omega)) ?_;rintro _ _ ⟨rfl,rfl⟩;rw[show TE.zero.cells.length=4 from rfl,lw (T:=T) TE.zero hlt];refine Zn (fE (cs':=[row _ _ _]) (.inr rfl) Zu rfl ?_);exact⟨rfl,rfl⟩
 rw[hc2];refine Zc (fE (cs':=[row _ _ _]) (.inr rfl) Zu rfl ?_);exact⟨rfl,rfl⟩
theorem BQ(bb:Nat)(T:List TE)(hT:T.length=16)(w:World)(hi:Inv w (bK [sd bb T]) [sd bb T] w):Ctr prog 252 [.pointer (some ⟨bb,0,none⟩)] w [sd bb T] (fun x cs=>x= .tuple #[]∧cs=[sd bb dM]):=by
 refine bL func252 rfl ntmps252 rfl hi ?_;refine Z_2 ?_;refine Zy (io (vs:=fc dM) Zk (.inr ⟨_,_,_,rfl,fun _=>rfl⟩)) ?_;refine Z_2 ?_;refine dy (jA (n:=64) Zrf rfl rfl (iE Zk) Za Zk (by rw[ic,ic,hT];decide)) ?_;rintro _ _ ⟨rfl,rfl⟩;rw[show(fc dM).length=64 by kernel_rfl,List.take_zero,aP,List.drop_eq_nil_of_le (by rw[ic,hT];decide),ay];refine Zn (fE (cs':=[row _ _ _]) (.inr rfl) Zu rfl ?_);exact⟨rfl,rfl⟩
theorem za(kind:Int)(w:World):Ctr prog 122 [.int .i64 kind] w [] (fun x cs=>x= .int .i64 (fault kind)∧cs=[]):=by
 refine bL func122 rfl ntmps122 rfl (Inv.start w) ?_;refine w8 ?_;refine ZW ?_ ?_<;>intro hc2
 ·refine Z_8 ?_;refine Zra ?_;refine⟨?_,rfl⟩;simp only[fault, *,ac,aa]
 refine Z_6 ?_;refine ZW ?_ ?_<;>intro hc4
 ·refine Z_8 ?_;refine Zra ?_;refine⟨?_,rfl⟩;simp only[fault, *,ac,aa]
 refine Z_6 ?_;refine ZW ?_ ?_<;>intro hc6
 ·refine Z_8 ?_;refine Zra ?_;refine⟨?_,rfl⟩;simp only[fault, *,ac,aa]
 refine Z_9 ?_;refine Zra ?_;refine⟨?_,rfl⟩;simp only[fault, *,ac,aa]
theorem EF(kind:Int)(If:Bool)(w:World):Ctr prog 210 [.int .i64 kind,.bool If] w [] (fun x cs=>x= .int .u32 (nm kind If)∧cs=[]):=by
 refine bL func210 rfl ntmps210 rfl (Inv.start w) ?_;refine mL ?_;refine Z_3 ?_;refine ZW ?_ ?_<;>intro hc3
 ·refine iG ?_;refine ZW ?_ ?_<;>intro hc9
  ·have hs:If=false:=by simpa using hc9
   refine jT ?_;refine Zra ?_;refine⟨?_,rfl⟩;simp only[nm,iy, *,ac,aa]
  have hs:If=true:=by simpa using hc9
  refine Z_9 ?_;refine Zra ?_;refine⟨?_,rfl⟩;simp only[nm,iy, *,ac,aa]
 refine Z_6 ?_;refine ZW ?_ ?_<;>intro hc5
 ·refine iG ?_;refine ZW ?_ ?_<;>intro hc9
  ·have hs:If=false:=by simpa using hc9
   refine jT ?_;refine Zra ?_;refine⟨?_,rfl⟩;simp only[nm,iy, *,ac,aa]
  have hs:If=true:=by simpa using hc9
  refine Z_9 ?_;refine Zra ?_;refine⟨?_,rfl⟩;simp only[nm,iy, *,ac,aa]
 refine Z_6 ?_;refine ZW ?_ ?_<;>intro hc7
 ·refine iG ?_;refine ZW ?_ ?_<;>intro hc9
  ·have hs:If=false:=by simpa using hc9
   refine jT ?_;refine Zra ?_;refine⟨?_,rfl⟩;simp only[nm,iy, *,ac,aa]
  have hs:If=true:=by simpa using hc9
  refine Z_9 ?_;refine Zra ?_;refine⟨?_,rfl⟩;simp only[nm,iy, *,ac,aa]
 refine eJ ?_;refine ZW ?_ ?_<;>intro hc9
 ·have hs:If=false:=by simpa using hc9
  refine jT ?_;refine Zra ?_;refine⟨?_,rfl⟩;simp only[nm,iy, *,ac,aa]
 have hs:If=true:=by simpa using hc9
 refine Z_9 ?_;refine Zra ?_;refine⟨?_,rfl⟩;simp only[nm,iy, *,ac,aa]
end Go.Proofs.YtakodpimdalajaaGreatDoor
namespace Go.Ink
open Go.RowKit
theorem and1{v:Int}(h:u32 v):bits .and .u32 v 1=v%2:=bits_mask .u32 32 (by decide) wraps_u32 1 (by decide) v h.1 (by have:=h.2;omega)
theorem zr{v:Int}(h:u32 v):bits .and .u32 v 15=v%16:=bits_mask .u32 32 (by decide) wraps_u32 4 (by decide) v h.1 (by have:=h.2;omega)
theorem Hd(a:Int)(n:Nat):a.fdiv (2^n)=a/2^n:=Int.fdiv_eq_ediv_of_nonneg a (by exact Int.le_of_lt (Int.pow_pos (by decide)))
theorem wV(v:Nat)(h:v≤4294967295):bits .andNot .u32 (v:Int) 63=((v/64*64:Nat):Int):=by
 show IntKind.u32.wrap (((BitVec.ofInt 32 (v:Int))&&& ~~~ (BitVec.ofInt 32 63)).toNat:Int)=_;have e1:(BitVec.ofInt 32 (v:Int)).toNat=v:=by rw[BitVec.ofInt_natCast,BitVec.toNat_ofNat];exact Nat.mod_eq_of_lt (by omega)
 have h1:v&&&4294967232=(v/64)*64:=by
  apply Nat.eq_of_testBit_eq;intro i;have e:(4294967232:Nat)=(2^26 - 1)*2^6:=by decide
  rw[e,Nat.testBit_and,show(v/64)*64=(v/2^6)*2^6 from rfl];rw[Nat.testBit_mul_two_pow,Nat.testBit_mul_two_pow,Nat.testBit_two_pow_sub_one,Nat.testBit_div_two_pow];by_cases hi:6≤i
  ·simp only[hi,decide_true,Bool.true_and,show i - 6+6=i by omega];by_cases h26:i - 6<26
   ·simp[h26]
   have:v.testBit i=false:=Nat.testBit_lt_two_pow (Nat.lt_of_lt_of_le (show v<2^32 by omega) (Nat.pow_le_pow_right (by omega) (by omega)));simp[this]
  simp[hi]
 rw[BitVec.toNat_and,e1,show(~~~ (BitVec.ofInt 32 63)).toNat=4294967232 from by decide,h1];exact u32_wrap_id _ (by omega) (by omega)
def Hz(o:Option Int):Value:=match o with|some e=> .tuple #[.int .u32 e,.bool true]|none=> .tuple #[.int .u32 0,.bool false]
theorem mZ{n:Nat}{d:List Int}{a:Nat}{e:Int}(h:u8s d)(he:jO n d a=some e):u32 e∧a+4≤n*64:=by
 unfold jO at he;cases hc:decide (a+4≤n*64)with
 |true=>
  rw[hc]at he;simp only[ac,aR]at he;subst he;exact⟨sA h a,of_decide_eq_true hc⟩
 |false=>rw[hc]at he;cases he
theorem CP{n:Nat}{d:List Int}{root va a:Nat}{l:Int}(h:u8s d)(hl:lM n d root va=some (a,l)):u32 l∧a+4≤n*64:=by
 unfold lM at hl;cases hc:decide (16384≤va)with
 |true=>rw[hc]at hl;cases hl
 |false=>
  rw[hc]at hl;simp only[aa]at hl;obtain⟨e,h1,h2⟩:=Option.bind_eq_some_iff.1 hl;unfold xQ at h2;cases hc2:(e%2==0)with
  |true=>rw[hc2]at h2;cases h2
  |false=>
   rw[hc2]at h2;simp only[aa]at h2;obtain⟨l',h3,h4⟩:=Option.map_eq_some_iff.1 h2;simp only[bz]at h4;obtain⟨rfl,rfl⟩:=h4;exact mZ h h3
theorem hH(op:BinOp)(a b:Int):u32 (bits op .u32 a b):=by
 cases op<;>exact⟨by show 0≤IntKind.u32.wrap _;rw[aE];omega,by show IntKind.u32.wrap _≤_;rw[aE];omega⟩
theorem sZ(l:Int)(kind:Int):u32 (mJ l kind):=by
 unfold mJ;cases(kind==3)
 ·exact hH .or _ _
 exact hH .or _ _
end Go.Ink
namespace Go.Proofs.YtakodpimdalajaaGreatDoor
open Go.RowKit Go.Ink Go.Proofs.Tryz
attribute [local irreducible] OpY bU
theorem zh(L:gR)(M:Mem)(a:Nat)(ha:a≤4294967295000)(w:World)(h:(eL L M).ok w):Ctr prog 255 [.pointer (some ⟨L.bm,0,none⟩),.int .u64 a] w [] (fun v cs=>v=Hz (jO L.n M.data a)∧cs=[]):=by
 obtain⟨n1,n64,hdl,hdb,htl⟩:=lc h;refine bL func255 rfl ntmps255 rfl (Inv.start w) ?_;refine eu ?_;refine ZSe (fun w hi=>mi L M w (bJ.old h hi)) ?_;refine Zy (ce rfl rfl (Zv rfl) (by first|exact IntWalk.u64_in _ ⟨by omega,by omega⟩|exact rfl)) ?_;refine Z_3 ?_;refine ZW ?_ ?_<;>intro hc1
 ·simp only[ap]at hc1;have hc:decide (a+4≤L.n*64)=false:=aD (by omega)
  refine Z_8 ?_;refine ft (cs':=[]) (.inl rfl) Zu rfl rfl rfl ?_;unfold Hz jO;rw[hc];exact⟨rfl,rfl⟩
 simp only[aj]at hc1;refine Z_3 ?_;refine(Bool.eq_false_or_eq_true (decide (a+4≤L.n*64))).elim (fun h0=>?_) (fun h0=>?_)
 ·refine Z_3 ?_;refine Zy (ce rfl rfl (Zv rfl) (u32_wrap_id _ (by omega) (by omega))) ?_;refine ZSe (fun w hi=>uc L M a (by omega) w (bJ.old h hi)) ?_;unfold Hz jO xe;rw[h0];simp only[ac];refine Z_7 ?_;refine ft (cs':=[]) (.inl rfl) Zu rfl rfl rfl ?_;exact⟨rfl,rfl⟩
 refine Z_3 ?_;refine Zy (ce rfl rfl (Zv rfl) (u32_wrap_id _ (by omega) (by omega))) ?_;refine ZSe (fun w hi=>uc L M a (by omega) w (bJ.old h hi)) ?_;unfold Hz jO xe;rw[h0];simp only[aa];refine Z_7 ?_;refine ft (cs':=[]) (.inl rfl) Zu rfl rfl rfl ?_;exact⟨rfl,rfl⟩
theorem look_ok(L:gR)(M:Mem)(root va:Nat)(hroot:root≤4294967295)(hva:va≤4294967295)(w:World)(h:(eL L M).ok w):Ctr prog 211 [.pointer (some ⟨L.bm,0,none⟩),.int .u32 root,.int .u32 va] w [] (fun v cs=>v=lookV (lM L.n M.data root va)∧cs=[]):=by
 obtain⟨n1,n64,hdl,hdb,htl⟩:=lc h;obtain⟨e1,he1⟩:=Zgn (jO L.n M.data (at1 root va));have HE1:=zh L M (at1 root va) (by unfold at1;omega);rw[he1]at HE1;refine bL func211 rfl ntmps211 rfl (Inv.start w) ?_;refine w8 ?_;refine ZW ?_ ?_<;>intro hc1
 ·have hc:decide (16384≤va)=true:=by(have h0:(16384:Int)≤va:=by simpa using hc1);exact aB (by omega)
  have hl:lM L.n M.data root va=none:=by(unfold lM;rw[hc];rfl)
  rw[hl];refine Z_9 ?_;refine sS (cs':=[]) (.inl rfl) Zu rfl rfl rfl rfl ?_;exact⟨rfl,rfl⟩
 have hlt:va<16384:=by(have h0:¬(16384:Int)≤va:=by simpa using hc1);omega
 have hl:lM L.n M.data root va=e1.bind (xQ L.n M.data va):=by(unfold lM;rw[aD (by omega),he1];rfl)
 rw[hl];refine Z_3 ?_;revert HE1 he1;refine Option.rec (fun he1 HE1=>?_) (fun e he1 HE1=>?_) e1
 ·refine Z_3 ?_;refine Zy (p5 Zv0 Zv0 (wV root hroot)) ?_;refine Zy (ce rfl rfl (Zv rfl) (by first|exact IntWalk.u64_in _ ⟨by omega,by omega⟩|exact rfl)) ?_;refine ZA ?_;refine Zy (jw (Zv rfl) (Zv rfl) (by omega) (show _=((va/1024:Nat):Int)from(Hd _ 10).trans (by omega))) ?_;refine Zy (ng (Zv rfl) (Zv rfl) (show _=((va/1024%16:Nat):Int)from(zr ⟨by omega,by omega⟩).trans (by omega))) ?_;refine Zy (iH (Zv rfl) (Zv rfl) (show _=((4*(va/1024%16):Nat):Int)from(u32_wrap_id _ (by omega) (by omega)).trans (by omega))) ?_;refine Zy (ce rfl rfl (Zv rfl) (by first|exact IntWalk.u64_in _ ⟨by omega,by omega⟩|exact rfl)) ?_;refine Zy (cy (Zv rfl) (Zv rfl) (show _=((at1 root va:Nat):Int)from(u64_wrap_id _ (by omega) (by omega)).trans (by unfold at1;omega))) ?_;refine ZSe (fun w hi=>HE1 w (bJ.old h hi)) ?_;simp only[Hz];refine GV ?_;refine cn rfl (rfl) ?_;refine Z_9 ?_;refine sS (cs':=[]) (.inl rfl) Zu rfl rfl rfl rfl ?_;exact⟨rfl,rfl⟩
 refine Z_3 ?_;refine Zy (p5 Zv0 Zv0 (wV root hroot)) ?_;refine Zy (ce rfl rfl (Zv rfl) (by first|exact IntWalk.u64_in _ ⟨by omega,by omega⟩|exact rfl)) ?_;refine ZA ?_;refine Zy (jw (Zv rfl) (Zv rfl) (by omega) (show _=((va/1024:Nat):Int)from(Hd _ 10).trans (by omega))) ?_;refine Zy (ng (Zv rfl) (Zv rfl) (show _=((va/1024%16:Nat):Int)from(zr ⟨by omega,by omega⟩).trans (by omega))) ?_;refine Zy (iH (Zv rfl) (Zv rfl) (show _=((4*(va/1024%16):Nat):Int)from(u32_wrap_id _ (by omega) (by omega)).trans (by omega))) ?_;refine Zy (ce rfl rfl (Zv rfl) (by first|exact IntWalk.u64_in _ ⟨by omega,by omega⟩|exact rfl)) ?_;refine Zy (cy (Zv rfl) (Zv rfl) (show _=((at1 root va:Nat):Int)from(u64_wrap_id _ (by omega) (by omega)).trans (by unfold at1;omega))) ?_;refine ZSe (fun w hi=>HE1 w (bJ.old h hi)) ?_;simp only[Hz];refine eJ ?_;have heu:=(mZ hdb he1).1;obtain⟨eu0,eu1⟩:=heu;refine Z_4 ?_;refine Zyn rfl rfl (ng (dQ rfl) Zv0 (and1 ⟨eu0,eu1⟩)) ?_;refine Z_4 ?_;refine ZW ?_ ?_<;>intro hc4
 ·have hc:(e%2==0)=true:=hc4;have hl2:(some e).bind (xQ L.n M.data va)=none:=by(simp only[Option.bind_some];unfold xQ;rw[hc];rfl)
  rw[hl2];refine Z_9 ?_;refine sS (cs':=[]) (.inl rfl) Zu rfl rfl rfl rfl ?_;exact⟨rfl,rfl⟩
 have hc:(e%2==0)=false:=hc4;have hl2:(some e).bind (xQ L.n M.data va)=(jO L.n M.data (at2 e va)).map fun l=>(at2 e va,l):=by(simp only[Option.bind_some];unfold xQ;rw[hc];rfl)
 rw[hl2];obtain⟨e2,he2⟩:=Zgn (jO L.n M.data (at2 e va));have HE2:=zh L M (at2 e va) (by unfold at2;omega);rw[he2]at HE2⊢;have hat:((at2 e va:Nat):Int)=e/256*64+4*((va/64%16:Nat):Int):=(by unfold at2;omega);refine Z_5 ?_;refine Zy (jw (Zv rfl) (Zv rfl) (by omega) (show _=e/256 from Hd _ 8)) ?_;refine Zy (ce rfl rfl (Zv rfl) (by first|exact IntWalk.u64_in _ ⟨by omega,by omega⟩|exact rfl)) ?_;refine Zy (iH (Zv rfl) (Zv rfl) (show _=e/256*64 from u64_wrap_id _ (by omega) (by omega))) ?_;refine ZA ?_;refine Zy (jw (Zv rfl) (Zv rfl) (by omega) (show _=((va/64:Nat):Int)from(Hd _ 6).trans (by omega))) ?_;refine Zy (ng (Zv rfl) (Zv rfl) (show _=((va/64%16:Nat):Int)from(zr ⟨by omega,by omega⟩).trans (by omega))) ?_;refine Zy (iH (Zv rfl) (Zv rfl) (show _=((4*(va/64%16):Nat):Int)from(u32_wrap_id _ (by omega) (by omega)).trans (by omega))) ?_;refine Zy (ce rfl rfl (Zv rfl) (by first|exact IntWalk.u64_in _ ⟨by omega,by omega⟩|exact rfl)) ?_;refine Zy (cy (Zv rfl) (Zv rfl) (show _=((at2 e va:Nat):Int)from(u64_wrap_id _ (by omega) (by omega)).trans (by omega))) ?_;refine Z_4 ?_;revert HE2 he2;refine Option.rec (fun he2 HE2=>?_) (fun l he2 HE2=>?_) e2
 ·refine Z_3 ?_;refine ZSe (fun w hi=>HE2 w (bJ.old h hi)) ?_;simp only[Hz];refine iG ?_;refine cn rfl (rfl) ?_;refine Z_9 ?_;refine sS (cs':=[]) (.inl rfl) Zu rfl rfl rfl rfl ?_;exact⟨rfl,rfl⟩
 refine Z_3 ?_;refine ZSe (fun w hi=>HE2 w (bJ.old h hi)) ?_;simp only[Hz];refine iG ?_;refine bV rfl (rfl) ?_;refine Z_4 ?_;have h2in:=(mZ hdb he2).2;refine ZA ?_;refine Zy (ce rfl rfl (Zv rfl) (u32_wrap_id _ (by omega) (by omega))) ?_;refine Z_7 ?_;refine sS (cs':=[]) (.inl rfl) Zu rfl rfl rfl rfl ?_;exact⟨rfl,rfl⟩
theorem wdo_ok(L:gR)(M:Mem)(root va:Nat)(hroot:root≤4294967295)(hva:va≤4294967295)(kind:Int)(If:Bool)(w:World)(hi:Inv w (bK [eL L M]) [eL L M] w):
  Ctr prog 159 [.pointer (some ⟨L.bm,0,none⟩),.int .u32 root,.int .u32 va,.int .i64 kind,.bool If] w [eL L M] (fun v cs=>v= .tuple #[(gI L.n M root va kind If).1.1.v,(gI L.n M root va kind If).1.2.v]∧cs=[eL L (gI L.n M root va kind If).2]):=by
 obtain⟨n1,n64,hdl,hdb,htl⟩:=lc (hi.ok _ (List.mem_cons_self ..));obtain⟨fk,hfk⟩:=Zgn (fault kind);obtain⟨wb,hwb⟩:=Zgn (nm kind If);obtain⟨lk,hlk⟩:=Zgn (lM L.n M.data root va);have HF:=za kind;have HB:=EF kind If;have HL:=look_ok L M root va hroot hva;unfold gI;rw[hfk]at HF⊢;rw[hwb]at HB⊢;rw[hlk]at HL⊢;refine bL func159 rfl ntmps159 rfl hi ?_;refine Z_2 ?_;refine ZN fun b10=>?_;refine ZN fun b11=>?_
 refine Z_5 ?_;refine ZSe (fun w hi=>HF w) ?_;refine iG ?_;refine ZW ?_ ?_<;>intro hc2
 ·have hc:(fk==0)=true:=hc2;rw[hc];simp only[ac];refine Z_5 ?_;refine ZM ?_;refine ZM ?_;refine Z_4 ?_;refine xx (cs':=[exC _ _ _ _]) (.inl rfl) Zu rfl rfl rfl Zh Zh Zrf Zrf Zrf Zrf ?_;exact⟨rfl,rfl⟩
 have hc:(fk==0)=false:=hc2;rw[hc];simp only[aa];refine Z_6 ?_;refine ZSe (fun w hi=>HB w) ?_;refine Z_4 ?_;revert HL hlk;refine Option.rec (fun hlk HL=>?_) (fun al hlk HL=>?_) lk
 ·refine Z_4 ?_;refine ZSe (fun w hi=>HL w (hi.get Zh)) ?_;simp only[lookV];refine mL ?_;refine Z_3 ?_;refine cn rfl (rfl) ?_;refine Z_6 ?_;refine ZM ?_;refine ZM ?_;refine Z_4 ?_;refine xx (cs':=[exC _ _ _ _]) (.inl rfl) Zu rfl rfl rfl Zh Zh Zrf Zrf Zrf Zrf ?_;exact⟨rfl,rfl⟩
 obtain⟨a,l⟩:=al;have hin:=CP hdb hlk;obtain⟨lu,ain⟩:=hin;obtain⟨lu0,lu1⟩:=lu;have mu:=sZ l kind;simp only;refine Z_4 ?_;refine ZSe (fun w hi=>HL w (hi.get Zh)) ?_;simp only[lookV];refine mL ?_;refine Z_3 ?_;refine ZW ?_ ?_<;>intro hc6
 ·have hc6':(bits .and .u32 l wb !=wb)=true:=hc6;rw[hc6'];simp only[ac];refine Z_6 ?_;refine ZM ?_;refine ZM ?_;refine Z_4 ?_;refine xx (cs':=[exC _ _ _ _]) (.inl rfl) Zu rfl rfl rfl Zh Zh Zrf Zrf Zrf Zrf ?_;exact⟨rfl,rfl⟩
 have hc6':(bits .and .u32 l wb !=wb)=false:=hc6;rw[hc6'];simp only[aa];refine mL ?_;refine Z_2 ?_;refine ZW ?_ ?_<;>intro hc10
 ·have hm:mJ l kind=bits .or .u32 (bits .or .u32 l 32) 64:=by(unfold mJ;rw[hc10];rfl)
  rw[hm]at mu⊢;obtain⟨m,hmm⟩:=Zgn (bits .or .u32 (bits .or .u32 l 32) 64);refine Z_9 ?_;rw[hmm]at mu⊢;refine Z_5 ?_;refine ZW ?_ ?_<;>intro hc12
  ·rw[hc12];simp only[ac];refine Z_4 ?_;refine ZcM ([eL L M]) (fun w hi hin=>mP L M a m ain mu w hin) ?_;refine Z_5 ?_;refine Zy (kb (Zv rfl) (Zv rfl) (by omega) (show _=((va/64:Nat):Int)from by rw[bC (by omega),u32_wrap_id _ (by omega) (by omega)];omega)) ?_;refine ZA ?_;refine Zy (jw (Zv rfl) (Zv rfl) (by omega) (show _=m/256 from Hd _ 8)) ?_;refine Z_4 ?_;refine ZM ?_;refine ZM ?_;refine Z_3 ?_;refine xx (cs':=[exC _ _ _ _]) (.inl rfl) Zu rfl rfl rfl Zh Zh Zrf Zrf Zrf Zrf ?_;exact⟨rfl,rfl⟩
  rw[hc12];simp only[aa];refine Z_5 ?_;refine Zy (kb (Zv rfl) (Zv rfl) (by omega) (show _=((va/64:Nat):Int)from by rw[bC (by omega),u32_wrap_id _ (by omega) (by omega)];omega)) ?_;refine ZA ?_;refine Zy (jw (Zv rfl) (Zv rfl) (by omega) (show _=m/256 from Hd _ 8)) ?_;refine Z_4 ?_;refine ZM ?_;refine ZM ?_;refine Z_3 ?_;refine xx (cs':=[exC _ _ _ _]) (.inl rfl) Zu rfl rfl rfl Zh Zh Zrf Zrf Zrf Zrf ?_;exact⟨rfl,rfl⟩
 have hm:mJ l kind=bits .or .u32 l 32:=by(unfold mJ;rw[hc10];rfl)
 rw[hm]at mu⊢;obtain⟨m,hmm⟩:=Zgn (bits .or .u32 l 32);refine Z_5 ?_;rw[hmm]at mu⊢;refine Z_5 ?_;refine ZW ?_ ?_<;>intro hc12
 ·rw[hc12];simp only[ac];refine Z_4 ?_;refine ZcM ([eL L M]) (fun w hi hin=>mP L M a m ain mu w hin) ?_;refine Z_5 ?_;refine Zy (kb (Zv rfl) (Zv rfl) (by omega) (show _=((va/64:Nat):Int)from by rw[bC (by omega),u32_wrap_id _ (by omega) (by omega)];omega)) ?_;refine ZA ?_;refine Zy (jw (Zv rfl) (Zv rfl) (by omega) (show _=m/256 from Hd _ 8)) ?_;refine Z_4 ?_;refine ZM ?_;refine ZM ?_;refine Z_3 ?_;refine xx (cs':=[exC _ _ _ _]) (.inl rfl) Zu rfl rfl rfl Zh Zh Zrf Zrf Zrf Zrf ?_;exact⟨rfl,rfl⟩
 rw[hc12];simp only[aa];refine Z_5 ?_;refine Zy (kb (Zv rfl) (Zv rfl) (by omega) (show _=((va/64:Nat):Int)from by rw[bC (by omega),u32_wrap_id _ (by omega) (by omega)];omega)) ?_;refine ZA ?_;refine Zy (jw (Zv rfl) (Zv rfl) (by omega) (show _=m/256 from Hd _ 8)) ?_;refine Z_4 ?_;refine ZM ?_;refine ZM ?_;refine Z_3 ?_;refine xx (cs':=[exC _ _ _ _]) (.inl rfl) Zu rfl rfl rfl Zh Zh Zrf Zrf Zrf Zrf ?_;exact⟨rfl,rfl⟩
end Go.Proofs.YtakodpimdalajaaGreatDoor
namespace Go.Ink
open Go.RowKit
theorem F0{va:Nat}(h:va≤4294967295){l:Int}(hl:u32 l):(leafE va l).wf:=
 ⟨⟨by show(0:Int)≤((va/64:Nat):Int);omega,by show((va/64:Nat):Int)≤_;omega⟩,⟨by show 0≤l/256;have:=hl.1;omega,by show l/256≤_;have:=hl.1;have:=hl.2;omega⟩,hH .and _ _⟩
theorem TE.Jb:TE.zero.wf:=⟨⟨by decide,by decide⟩,⟨by decide,by decide⟩,⟨by decide,by decide⟩⟩
theorem Bt(n:Nat)(M:Mem)(root va:Nat)(h:va≤4294967295)(kind:Int)(If:Bool):(gI n M root va kind If).1.1.wf:=by
 unfold gI;cases(fault kind==0)with
 |true=>exact TE.Jb
 |false=>
  simp only[aa];split
  ·exact TE.Jb
  rename_i a l _
  cases(bits .and .u32 l (nm kind If) !=nm kind If)with
  |true=>exact TE.Jb
  |false=>exact F0 h (sZ l kind)
theorem BR(T:List TE)(e:TE):(BS T e).length=T.length:=by unfold BS;cases e.valid<;>simp
theorem BT(T:List TE)(va:Nat):(sf T va).length=T.length:=by unfold sf;cases((xm T va).vpn==((va/64:Nat):Int))<;>simp
theorem vu(n:Nat)(U:Mmu)(s:Sp)(va:Nat)(kind:Int):(de n U s va kind).2.t.length=U.t.length:=by
 unfold de;cases(!s.Il)<;>simp only[ac,aa]
 cases(pN U.t va kind s.If).2<;>simp only[ac,aa]
 cases((gI n U.m s.root va kind s.If).1.2.Ie !=0)<;>simp only[ac,aa,BR]
theorem qS(n:Nat)(U:Mmu)(s:Sp)(va:Nat)(kind:Int):(cR n U s va kind).2.t.length=U.t.length:=by
 have h:=vu n U s va kind;unfold cR;cases(fault kind==0)<;>simp only[ac,aa]
 cases((de n U s va kind).1.2.Ie !=0)<;>simp only[ac,aa,h]
 cases(decide ((de n U s va kind).1.1<((n*64:Nat):Int))||((kind !=1)&&pQ (de n U s va kind).1.1))<;>simp only[ac,aa,h]
end Go.Ink
namespace Go.Proofs.YtakodpimdalajaaGreatDoor
open Go.RowKit Go.Ink Go.Proofs.Tryz
attribute [local irreducible] OpY bU
abbrev EK(bu bm bb:Nat):bJ:=row bu [.pointer (some ⟨bm,0,none⟩),.pointer (some ⟨bb,0,none⟩)] 159
abbrev uF(bu bb:Nat)(L:gR)(U:Mmu):List bJ:=[EK bu L.bm bb,eL L U.m,sd bb U.t]
theorem rM(a:Int)(w:World):Ctr prog 124 [.int .u32 a] w [] (fun v cs=>v= .bool (pQ a)∧cs=[]):=by
 refine bL func124 rfl ntmps124 rfl (Inv.start w) ?_;refine vg ?_;refine Zra ?_;exact⟨rfl,rfl⟩
theorem CC(bm:Nat)(w:World):Ctr prog 38 [.pointer (some ⟨bm,0,none⟩)] w [] (fun v cs=>∃bu bb,v= .tuple #[.pointer (some ⟨bu,0,none⟩),.int .i64 0]∧cs=[sd bb dM,EK bu bm bb]):=by
 refine bL func38 rfl ntmps38 rfl (Inv.start w) ?_;refine jT ?_;refine bV rfl (rfl) ?_;refine Z_5 ?_;refine ZS (fun w hi=>BO w) ?_;rintro _ _ ⟨_,⟨bb,rfl,rfl⟩,rfl⟩;refine ZA ?_;refine ZO fun b9=>?_
 refine Z_5 ?_;refine ft (cs':=[row _ _ _,row _ _ _]) (.inl rfl) Zu rfl rfl rfl ?_;exact⟨_,_,rfl,rfl⟩
theorem kL(bu bm bb:Nat)(w:World)(h:(EK bu bm bb).ok w):Ctr prog 93 [.pointer (some ⟨bu,0,none⟩)] w [] (fun v cs=>v= .pointer (some ⟨bm,0,none⟩)∧cs=[]):=by
 refine bL func93 rfl ntmps93 rfl (Inv.start w) ?_;refine eJ ?_;refine dX (bO Zrf (Zv rfl)) (dL (by assumption) rfl) rfl ?_;refine Z_4 ?_;refine Zra ?_;exact⟨rfl,rfl⟩
theorem EJ(bu bb:Nat)(L:gR)(U:Mmu)(hT:U.t.length=16)(va:Nat)(hva:va≤4294967295)(w:World)(hi:Inv w (bK (uF bu bb L U)) (uF bu bb L U) w):Ctr prog 202 [.pointer (some ⟨bu,0,none⟩),.int .u32 va] w (uF bu bb L U) (fun v cs=>v= .tuple #[]∧cs=uF bu bb L ⟨U.m,sf U.t va⟩):=by
 refine bL func202 rfl ntmps202 rfl hi ?_;refine Z_6 ?_;refine ZcM ([sd bb U.t]) (fun w hi hin=>EU bb U.t hT va hva w hin) ?_;refine Zn (bP (uF bu bb L ⟨U.m,sf U.t va⟩) Zj ?_);refine fE (cs':=uF _ _ _ _) (.inr rfl) Zu rfl ?_;exact⟨rfl,rfl⟩
theorem BB(bu bb:Nat)(L:gR)(U:Mmu)(hT:U.t.length=16)(w:World)(hi:Inv w (bK (uF bu bb L U)) (uF bu bb L U) w):Ctr prog 201 [.pointer (some ⟨bu,0,none⟩)] w (uF bu bb L U) (fun v cs=>v= .tuple #[]∧cs=uF bu bb L ⟨U.m,dM⟩):=by
 refine bL func201 rfl ntmps201 rfl hi ?_;refine Z_5 ?_;refine ZcM ([sd bb U.t]) (fun w hi hin=>BQ bb U.t hT w hin) ?_;refine Zn (bP (uF bu bb L ⟨U.m,dM⟩) Zj ?_);refine fE (cs':=uF _ _ _ _) (.inr rfl) Zu rfl ?_;exact⟨rfl,rfl⟩
abbrev trC(b:Nat)(t:Tr):bJ:=row b t.cells 177
abbrev teC(b:Nat)(e:TE):bJ:=row b e.cells 150
theorem BE(bu bb:Nat)(L:gR)(U:Mmu)(hT:U.t.length=16)(s:Sp)(hr:s.root≤4294967295)(va:Nat)(hva:va≤4294967295)(kind:Int)(w:World)(hi:Inv w (bK (uF bu bb L U)) (uF bu bb L U) w):
  Ctr prog 123 [.pointer (some ⟨bu,0,none⟩),s.v,.int .u32 va,.int .i64 kind] w (uF bu bb L U) (fun v cs=>v= .tuple #[.int .u32 (de L.n U s va kind).1.1,(de L.n U s va kind).1.2.v]∧cs=uF bu bb L (de L.n U s va kind).2):=by
 obtain⟨fd,hfd⟩:=Zgn (pN U.t va kind s.If);obtain⟨wd,hwd⟩:=Zgn (gI L.n U.m s.root va kind s.If);have hwf:=Bt L.n U.m s.root va hva kind s.If;have HFD:=ES bb U.t hT va hva kind s.If;have HWD:=wdo_ok L U.m s.root va hr hva kind s.If;unfold de;rw[hfd]at HFD⊢;rw[hwd]at HWD hwf⊢;obtain⟨⟨te,tr⟩,M'⟩:=wd;simp only at HWD hwf⊢;refine bL func123 rfl ntmps123 rfl hi ?_;refine Z_2 ?_;refine ZO fun b5=>?_;refine ZA ?_;refine ZN fun b9=>?_
 refine eJ ?_;refine ZW ?_ ?_<;>intro hc1
 ·rw[hc1];simp only[ac];refine Z_5 ?_;refine ZM ?_;refine Z_4 ?_;refine mR (cs':=[row _ _ _,exC _ _ _ _,row _ _ _]) (.inl rfl) Zu rfl rfl rfl Zh Zrf Zrf ?_;exact⟨rfl,rfl⟩
 rw[hc1];simp only[aa];refine Z_4 ?_;refine bX ⟨fun j=>List.elem j [],[]⟩ Zk ?_;refine ZE 0 ?_;refine ZE 1 ?_;refine ZFe 2 1 ?_;refine ZG 3 ?_;refine ZE 4 ?_;refine ZE 5 ?_;refine ZFe 6 1 ?_;refine ZG 7 ?_;refine cw 8 Zk ?_;refine ZT (fun w hi=>HFD w (hi.get Zh)) ?_;rintro _ _ ⟨_,⟨rfl,rfl⟩,rfl⟩;refine ZE 9 ?_;refine ZE 10 ?_;refine ZE 11 ?_;refine ZE 12 ?_;refine ZE 13 ?_;refine bN Zk ?_;refine Z_6 ?_;refine ZW ?_ ?_<;>intro hc4
 ·rw[hc4];simp only[ac];refine Z_5 ?_;refine ZM ?_;refine Z_4 ?_;refine mR (cs':=[row _ _ _,exC _ _ _ _,row _ _ _]) (.inl rfl) Zu rfl rfl rfl Zh Zrf Zrf ?_;exact⟨rfl,rfl⟩
 rw[hc4];simp only[aa];refine Z_2 ?_;refine cS (fun q:Nat×Nat=>[(0,.pointer (some ⟨bu,0,none⟩)),(2,.int .u32 va),(9,.pointer (some ⟨b9,0,none⟩)),(12,.pointer (some ⟨q.1,0,none⟩)),(13,.pointer (some ⟨q.2,0,none⟩))]) (fun q=>[EK bu L.bm bb,eL L M',sd bb U.t,trC b9 Tr.none,teC q.1 te,trC q.2 tr]) (fun _=>True) ?_ ?_
 ·refine bX ⟨fun j=>List.elem j [10,16,17],[]⟩ Zk ?_;refine ZE 0 ?_;refine ZE 1 ?_;refine ZFe 2 0 ?_;refine ZG 3 ?_;refine ZFe 4 2 ?_;refine ZG 5 ?_;refine ZE 6 ?_;refine ZE 7 ?_;refine ZFe 8 1 ?_;refine ZG 9 ?_;refine wa_3 10 14 15 Zk ?_ ?_ ?_
  ·refine ZcA ([eL L U.m]) (fun w hi hin=>HWD w hin) ?_;rintro _ _ ⟨_,⟨rfl,rfl⟩,rfl⟩;refine ZE 11 ?_;refine ZE 12 ?_;refine ZE 13 ?_;refine jY 14 15 Zk ?_ ?_
   ·refine ZP fun b12=>?_
    refine cw 15 Zk ?_;refine ZP fun b13=>?_
    refine cw 16 Zk ?_;refine dz rfl rfl (bY (vs:=te.cells) Zrf rfl rfl (iE rfl) Za (by exact rfl)) ZJ ?_;rintro _ _ ⟨rfl,rfl⟩;refine cw 17 Zk ?_;refine dz rfl rfl (bY (vs:=tr.cells) Zrf rfl rfl (iE rfl) Za (by exact rfl)) ZJ ?_;rintro _ _ ⟨rfl,rfl⟩;refine bN Zk ?_;refine cq ((b12,b13)) ?_ ?_ ?_
    ·trivial
    ·exact Zwk
    exact Zj
   refine ZP fun b13=>?_
   refine cw 14 Zk ?_;refine ZP fun b12=>?_
   refine cw 16 Zk ?_;refine dz rfl rfl (bY (vs:=te.cells) Zrf rfl rfl (iE rfl) Za (by exact rfl)) ZJ ?_;rintro _ _ ⟨rfl,rfl⟩;refine cw 17 Zk ?_;refine dz rfl rfl (bY (vs:=tr.cells) Zrf rfl rfl (iE rfl) Za (by exact rfl)) ZJ ?_;rintro _ _ ⟨rfl,rfl⟩;refine bN Zk ?_;refine cq ((b12,b13)) ?_ ?_ ?_
   ·trivial
   ·exact Zwk
   exact Zj
  ·refine ZP fun b12=>?_
   refine jY 10 15 Zk ?_ ?_
   ·refine ZcA ([eL L U.m]) (fun w hi hin=>HWD w hin) ?_;rintro _ _ ⟨_,⟨rfl,rfl⟩,rfl⟩;refine ZE 11 ?_;refine ZE 12 ?_;refine ZE 13 ?_;refine cw 15 Zk ?_;refine ZP fun b13=>?_
    refine cw 16 Zk ?_;refine dz rfl rfl (bY (vs:=te.cells) Zrf rfl rfl (iE rfl) Za (by exact rfl)) ZJ ?_;rintro _ _ ⟨rfl,rfl⟩;refine cw 17 Zk ?_;refine dz rfl rfl (bY (vs:=tr.cells) Zrf rfl rfl (iE rfl) Za (by exact rfl)) ZJ ?_;rintro _ _ ⟨rfl,rfl⟩;refine bN Zk ?_;refine cq ((b12,b13)) ?_ ?_ ?_
    ·trivial
    ·exact Zwk
    exact Zj
   refine ZP fun b13=>?_
   refine cw 10 Zk ?_;refine ZcA ([eL L U.m]) (fun w hi hin=>HWD w hin) ?_;rintro _ _ ⟨_,⟨rfl,rfl⟩,rfl⟩;refine ZE 11 ?_;refine ZE 12 ?_;refine ZE 13 ?_;refine cw 16 Zk ?_;refine dz rfl rfl (bY (vs:=te.cells) Zrf rfl rfl (iE rfl) Za (by exact rfl)) ZJ ?_;rintro _ _ ⟨rfl,rfl⟩;refine cw 17 Zk ?_;refine dz rfl rfl (bY (vs:=tr.cells) Zrf rfl rfl (iE rfl) Za (by exact rfl)) ZJ ?_;rintro _ _ ⟨rfl,rfl⟩;refine bN Zk ?_;refine cq ((b12,b13)) ?_ ?_ ?_
   ·trivial
   ·exact Zwk
   exact Zj
  refine ZP fun b13=>?_
  refine jY 10 14 Zk ?_ ?_
  ·refine ZcA ([eL L U.m]) (fun w hi hin=>HWD w hin) ?_;rintro _ _ ⟨_,⟨rfl,rfl⟩,rfl⟩;refine ZE 11 ?_;refine ZE 12 ?_;refine ZE 13 ?_;refine cw 14 Zk ?_;refine ZP fun b12=>?_
   refine cw 16 Zk ?_;refine dz rfl rfl (bY (vs:=te.cells) Zrf rfl rfl (iE rfl) Za (by exact rfl)) ZJ ?_;rintro _ _ ⟨rfl,rfl⟩;refine cw 17 Zk ?_;refine dz rfl rfl (bY (vs:=tr.cells) Zrf rfl rfl (iE rfl) Za (by exact rfl)) ZJ ?_;rintro _ _ ⟨rfl,rfl⟩;refine bN Zk ?_;refine cq ((b12,b13)) ?_ ?_ ?_
   ·trivial
   ·exact Zwk
   exact Zj
  refine ZP fun b12=>?_
  refine cw 10 Zk ?_;refine ZcA ([eL L U.m]) (fun w hi hin=>HWD w hin) ?_;rintro _ _ ⟨_,⟨rfl,rfl⟩,rfl⟩;refine ZE 11 ?_;refine ZE 12 ?_;refine ZE 13 ?_;refine cw 16 Zk ?_;refine dz rfl rfl (bY (vs:=te.cells) Zrf rfl rfl (iE rfl) Za (by exact rfl)) ZJ ?_;rintro _ _ ⟨rfl,rfl⟩;refine cw 17 Zk ?_;refine dz rfl rfl (bY (vs:=tr.cells) Zrf rfl rfl (iE rfl) Za (by exact rfl)) ZJ ?_;rintro _ _ ⟨rfl,rfl⟩;refine bN Zk ?_;refine cq ((b12,b13)) ?_ ?_ ?_
  ·trivial
  ·exact Zwk
  exact Zj
 rintro⟨b12,b13⟩ -;dsimp only;refine Z_8 ?_;refine ZW ?_ ?_<;>intro hc7
 ·rw[hc7];simp only[ac];refine Zs (bX ⟨fun j=>List.elem j [2],[]⟩ Zk ?_);refine ZI 0 ?_;refine ZE 1 ?_;refine cw 2 Zk ?_;refine ZR ?_;refine bN Zk ?_;refine Z_3 ?_;refine mR (cs':=[row _ _ _,exC _ _ _ _,row _ _ _]) (.inl rfl) Zu rfl rfl rfl Zh Zrf Zrf ?_;exact⟨rfl,rfl⟩
 rw[hc7];simp only[aa];refine Z_3 ?_;refine bX ⟨fun j=>List.elem j [5],[]⟩ Zk ?_;refine ZE 0 ?_;refine ZE 1 ?_;refine ZFe 2 1 ?_;refine ZG 3 ?_;refine ZI 4 ?_;refine cw 5 Zk ?_;refine ZcA ([sd bb U.t]) (fun w hi hin=>ET bb U.t hT te hwf w hin) ?_;rintro _ _ ⟨_,⟨rfl,rfl⟩,rfl⟩;refine bN Zk ?_;refine Z_2 ?_;refine bX ⟨fun j=>List.elem j [8],[]⟩ Zk ?_;refine ZFe 0 2 ?_;refine ZG 1 ?_;refine cN 2 rfl Zk Zk Zk (iH Zv0 Zv0 rfl) rfl ?_;refine ZE 3 ?_;refine cN 4 rfl Zk Zk Zk (kp (Zv rfl) (Zv rfl) (by omega) (show _=((va%64:Nat):Int)from by rw[aW (by omega)];omega)) rfl ?_;refine cN 5 rfl Zk Zk Zk (cy Zv0 Zv0 rfl) rfl ?_;refine ZI 6 ?_;refine ZE 7 ?_;refine cw 8 Zk ?_;refine ZR ?_;refine bN Zk ?_;refine Z_2 ?_;refine bP [EK bu L.bm bb,eL L M',sd bb (BS U.t te),trC b9 tr] Zj ?_;refine mR (cs':=[row _ _ _,exC _ _ _ _,row _ _ _]) (.inl rfl) Zu rfl rfl rfl Zh Zrf Zrf ?_;exact⟨rfl,rfl⟩
end Go.Proofs.YtakodpimdalajaaGreatDoor
namespace Go.Ink
open Go.RowKit
theorem qT(pfn:Int)(va:Nat):u32 (pE pfn va)∧pE pfn va%64=((va%64:Nat):Int):=by
 unfold pE;rw[aE,aE];exact⟨⟨by omega,by omega⟩,by omega⟩
theorem tV(n:Nat)(U:Mmu)(s:Sp)(va:Nat)(hva:va≤4294967295)(kind:Int):u32 (de n U s va kind).1.1∧((de n U s va kind).1.2.Ie=0→(de n U s va kind).1.1%64=((va%64:Nat):Int)):=by
 unfold de;cases(!s.Il)with
 |true=>exact⟨⟨by show(0:Int)≤(va:Int);omega,by show(va:Int)≤_;omega⟩,fun _=>by show(va:Int)%64=_;omega⟩
 |false=>
  simp only[aa];cases hf:(pN U.t va kind s.If).2 with
  |true=>
   simp only[ac];unfold pN at hf⊢;cases hn:mV (xm U.t va) va (asked kind s.If)with
   |true=>rw[hn]at hf;cases hf
   |false=>
    simp only[aa];have:=qT (xm U.t va).pfn va;exact⟨this.1,fun _=>this.2⟩
  |false=>
   simp only[aa];cases hc:((gI n U.m s.root va kind s.If).1.2.Ie !=0)with
   |true=>
    simp only[ac];refine⟨⟨by decide,by decide⟩,fun h=>?_⟩;rw[h]at hc;cases hc
   |false=>
    simp only[aa];have:=qT (gI n U.m s.root va kind s.If).1.1.pfn va;exact⟨this.1,fun _=>this.2⟩
structure Es(n:Nat)(va:Nat)(p:Int):Prop where
 u:u32 p
 m:p%64=((va%64:Nat):Int)
 r:p<((n*64:Nat):Int)∨pQ p=true
theorem i9(n:Nat)(U:Mmu)(s:Sp)(va:Nat)(hva:va≤4294967295)(kind:Int):u32 (cR n U s va kind).1.1∧((cR n U s va kind).1.2.Ie=0→Es n va (cR n U s va kind).1.1):=by
 obtain⟨h1,h2⟩:=tV n U s va hva kind;have u0:u32 0:=⟨by decide,by decide⟩;unfold cR;cases hf:(fault kind==0)with
 |true=>exact⟨u0,fun h=>by cases h⟩
 |false=>
  simp only[aa];cases hc:((de n U s va kind).1.2.Ie !=0)with
  |true=>
   simp only[ac];refine⟨u0,fun h=>?_⟩;rw[h]at hc;cases hc
  |false=>
   simp only[aa];cases hr:(decide ((de n U s va kind).1.1<((n*64:Nat):Int))||((kind !=1)&&pQ (de n U s va kind).1.1))with
   |false=>exact⟨u0,fun h=>by cases h⟩
   |true=>
    simp only[ac];refine⟨h1,fun h=>⟨h1,h2 h,?_⟩⟩;simp only[Bool.or_eq_true,ap,az]at hr;rcases hr with hr|hr
    ·exact .inl hr
    exact .inr hr.2
def ed(va:Nat):Nat:=(va - va%64+64)%4294967296
theorem kS(va:Nat):ed va≤4294967295:=by unfold ed;omega
theorem vV(va:Nat):ed va%64=0:=by unfold ed;omega
def kv(a b:Int)(va j:Nat):Int:=bif decide (j<64 - va%64)then IntKind.u32.wrap (a+(j:Int))else IntKind.u32.wrap (b+((j - (64 - va%64):Nat):Int))
def kN(a b:Int)(va k:Nat):List Int:=(List.range k).map (kv a b va)
theorem mh(a b:Int)(va k:Nat):kN a b va (k+1)=kN a b va k++[kv a b va k]:=by simp[kN,List.range_succ]
theorem vz(a b:Int)(va k:Nat):(kN a b va k).length=k:=by simp[kN]
def fM(a b:Int)(va k:Nat)(t:Tr)(U:Mmu):(List Int×Tr)×Mmu:=
 bif pQ a then(([],⟨10,va⟩),U)else bif(decide (((64 - va%64:Nat):Int)<(k:Int))&&pQ b)then(([],⟨10,ed va⟩),U)else((kN a b va k,t),U)
def zU(n:Nat)(s:Sp)(va k:Nat)(kind:Int)(p1:(Int×Tr)×Mmu):(List Int×Tr)×Mmu:=
 bif(cR n p1.2 s (ed va) kind).1.2.Ie !=0 then(([],(cR n p1.2 s (ed va) kind).1.2),(cR n p1.2 s (ed va) kind).2)
 else fM p1.1.1 (cR n p1.2 s (ed va) kind).1.1 va k (cR n p1.2 s (ed va) kind).1.2 (cR n p1.2 s (ed va) kind).2
def zV(n:Nat)(s:Sp)(va k:Nat)(kind:Int)(p1:(Int×Tr)×Mmu):(List Int×Tr)×Mmu:=
 bif p1.1.2.Ie !=0 then(([],p1.1.2),p1.2)else
 bif decide (((64 - va%64:Nat):Int)<(k:Int))then zU n s va k kind p1 else fM p1.1.1 0 va k p1.1.2 p1.2
def eV(n:Nat)(U:Mmu)(s:Sp)(va k:Nat)(kind:Int):(List Int×Tr)×Mmu:=zV n s va k kind (cR n U s va kind)
theorem yr{n:Nat}{a b:Int}{va k:Nat}(hn:n≤64)(ha:0≤a)(ha1:a<((n*64:Nat):Int))(hm:a%64=((va%64:Nat):Int))(hb:((64 - va%64:Nat):Int)<(k:Int)→0≤b∧b<((n*64:Nat):Int)∧b%64=0)(hk:k≤4):∀x,x∈kN a b va k→0≤x∧x<((n*64:Nat):Int):=by
 intro x hx;unfold kN at hx;obtain⟨j,hj,rfl⟩:=aY.1 hx;rw[List.mem_range]at hj;unfold kv;cases hc:decide (j<64 - va%64)with
 |true=>
  simp only[ac];have:=of_decide_eq_true hc;rw[aE];omega
 |false=>
  simp only[aa];have h1:=of_decide_eq_false hc;obtain⟨b0,b1,b2⟩:=hb (by omega);rw[aE];omega
theorem x5{a:Int}(h:pQ a=false){n:Nat}{va:Nat}(hp:Es n va a):a<((n*64:Nat):Int):=by
 rcases hp.r with h1|h1
 ·exact h1
 rw[h]at h1;cases h1
theorem vy{n:Nat}{U:Mmu}{s:Sp}{va k:Nat}(hn:n≤64)(hva:va≤4294967295){kind:Int}(hk:k≤4):∀x,x∈(eV n U s va k kind).1.1→0≤x∧x<((n*64:Nat):Int):=by
 obtain⟨_,h1⟩:=i9 n U s va hva kind;unfold eV zV;cases hc:((cR n U s va kind).1.2.Ie !=0)with
 |true=>intro x hx;cases hx
 |false=>
  simp only[aa];have p1:=h1 (by simpa using hc);cases hl:decide (((64 - va%64:Nat):Int)<(k:Int))with
  |true=>
   simp only[ac];unfold zU;obtain⟨_,h2⟩:=i9 n (cR n U s va kind).2 s (ed va) (kS va) kind;cases hc2:((cR n (cR n U s va kind).2 s (ed va) kind).1.2.Ie !=0)with
   |true=>intro x hx;cases hx
   |false=>
    simp only[aa];have p2:=h2 (by simpa using hc2);unfold fM;cases d1:pQ (cR n U s va kind).1.1 with
    |true=>intro x hx;cases hx
    |false=>
     simp only[aa];rw[hl];simp only[Bool.true_and];cases d2:pQ (cR n (cR n U s va kind).2 s (ed va) kind).1.1 with
     |true=>intro x hx;cases hx
     |false=>
      simp only[aa];exact yr hn p1.u.1 (x5 d1 p1) p1.m (fun _=>⟨p2.u.1,x5 d2 p2,by have h3:=p2.m;rw[vV]at h3;exact h3⟩) hk
  |false=>
   simp only[aa];unfold fM;cases d1:pQ (cR n U s va kind).1.1 with
   |true=>intro x hx;cases hx
   |false=>
    simp only[aa];rw[hl];simp only[Bool.false_and,aa];exact yr hn p1.u.1 (x5 d1 p1) p1.m (fun h=>absurd h (of_decide_eq_false hl)) hk
theorem oJ{n:Nat}{U:Mmu}{s:Sp}{va k:Nat}{kind:Int}:(eV n U s va k kind).1.1.length≤k:=by
 unfold eV zV zU fM
 repeat' (first|(simp only[ak];omega)|(rw[vz];exact aS _)|(rw[Bool.cond_eq_ite];split))
def gg(d:List Int):List Int→Int
 |[]=>0
 |a::l=>gB d a.toNat+256*gg d l
theorem lH{d:List Int}(h:u8s d):∀l:List Int,0≤gg d l∧gg d l<256^l.length
 |[]=>by simp[gg]
 |a::l=>by
  have h1:=jJ h a.toNat;have h2:=lH h l;simp only[gg,ai,Int.pow_succ];omega
theorem uA{d:List Int}(h:u8s d){l:List Int}(hl:l.length≤4){j:Nat}(hj:j<l.length):bits .or .u32 (IntKind.u32.wrap (gg d (l.drop (j+1))*2^(min (8:Int).toNat IntKind.u32.bits))) (gB d (l[j]'hj).toNat)=gg d (l.drop j):=by
 have h1:=lH h (l.drop (j+1));have h2:=jJ h (l[j]'hj).toNat;have h3:(l.drop (j+1)).length≤3:=by rw[bn];omega
 rw[show l.drop j=l[j]'hj::l.drop (j+1)from List.drop_eq_getElem_cons hj];simp only[gg];generalize gg d (l.drop (j+1))=v at h1;generalize (l.drop (j+1)).length=m at h1 h3;have hv:0≤v∧v<16777216:=by
  obtain rfl|rfl|rfl|rfl:m=0∨m=1∨m=2∨m=3:=by omega
  all_goals (simp at h1;omega)
 have e1:(2:Int)^(min (8:Int).toNat IntKind.u32.bits)=256:=rfl;rw[e1,u32_wrap_id _ (by omega) (by omega),bits_join .u32 32 (by decide) wraps_u32 8 (v*256) _ (by omega) (by omega) (by omega) (by omega) (by omega) (by omega)];omega
def IH(M:Mem)(l:List Int)(v:Int):Nat→Mem
 |0=>M
 |k+1=>(IH M l v k).put ((l.getD k 0).toNat) (qw v k)
def nS(n:Nat)(U:Mmu)(s:Sp)(va k:Nat):(Int×Tr)×Mmu:=
 ((gg (eV n U s va k 2).2.m.data (eV n U s va k 2).1.1,(eV n U s va k 2).1.2),(eV n U s va k 2).2)
def mM(n:Nat)(U:Mmu)(s:Sp)(va k:Nat)(v:Int):Tr×Mmu:=
 ((eV n U s va k 3).1.2,⟨IH (eV n U s va k 3).2.m (eV n U s va k 3).1.1 v (eV n U s va k 3).1.1.length,(eV n U s va k 3).2.t⟩)
theorem xi(v:Int){k:Nat}(hk:k<4):IntKind.u8.wrap (v.fdiv (2^(min (IntKind.i64.wrap (8*(k:Int))).toNat IntKind.u32.bits)))=qw v k:=by
 rw[←vm v hk];obtain rfl|rfl|rfl|rfl:k=0∨k=1∨k=2∨k=3:=by omega
 all_goals rfl
end Go.Ink
namespace Go.Proofs.YtakodpimdalajaaGreatDoor
open Go.RowKit Go.Ink Go.Proofs.Tryz
attribute [local irreducible] OpY bU
theorem nw(bu bb:Nat)(L:gR)(U:Mmu)(hT:U.t.length=16)(s:Sp)(hr:s.root≤4294967295)(va:Nat)(hva:va≤4294967295)(kind:Int)(w:World)(hi:Inv w (bK (uF bu bb L U)) (uF bu bb L U) w):
  Ctr prog 92 [.pointer (some ⟨bu,0,none⟩),s.v,.int .u32 va,.int .i64 kind] w (uF bu bb L U) (fun v cs=>v= .tuple #[.int .u32 (cR L.n U s va kind).1.1,(cR L.n U s va kind).1.2.v]∧cs=uF bu bb L (cR L.n U s va kind).2):=by
 obtain⟨fk,hfk⟩:=Zgn (fault kind);obtain⟨td,htd⟩:=Zgn (de L.n U s va kind);have HF:=za kind;have HT:=BE bu bb L U hT s hr va hva kind;unfold cR;rw[hfk]at HF⊢;rw[htd]at HT⊢;obtain⟨⟨p,tr⟩,U'⟩:=td;simp only at HT⊢;refine bL func92 rfl ntmps92 rfl hi ?_;refine Z_2 ?_;refine ZO fun b5=>?_;refine ZA ?_;refine ZN fun b9=>?_
 refine Z_6 ?_;refine ZN fun b10=>?_
 refine ZM ?_;refine Z_6 ?_;refine ZSe (fun w hi=>HF w) ?_;refine Z_3 ?_;refine ZW ?_ ?_<;>intro hc2
 ·rw[hc2];simp only[ac];refine Zs (bX ⟨fun j=>List.elem j [2],[]⟩ Zk ?_);refine ZI 0 ?_;refine ZE 1 ?_;refine cw 2 Zk ?_;refine ZR ?_;refine bN Zk ?_;refine Z_3 ?_;refine mR (cs':=[row _ _ _,exC _ _ _ _,row _ _ _]) (.inl rfl) Zu rfl rfl rfl Zh Zrf Zrf ?_;exact⟨rfl,rfl⟩
 rw[hc2];simp only[aa];refine Z_8 ?_;refine ZcM (uF bu bb L U) (fun w hi hin=>HT w hin) ?_;refine Z_3 ?_;refine ZN fun b12=>?_
 refine ZA ?_;refine dy (bY (vs:=tr.cells) Zrf rfl rfl (iE rfl) Za (by exact rfl)) ?_;rintro _ _ ⟨rfl,rfl⟩;refine eJ ?_;refine ZW ?_ ?_<;>intro hc5
 ·rw[hc5];simp only[ac];refine Zs (bX ⟨fun j=>List.elem j [2],[]⟩ Zk ?_);refine ZI 0 ?_;refine ZE 1 ?_;refine cw 2 Zk ?_;refine ZR ?_;refine bN Zk ?_;refine Z_3 ?_;refine mR (cs':=[row _ _ _,exC _ _ _ _,row _ _ _]) (.inl rfl) Zu rfl rfl rfl Zh Zrf Zrf ?_;exact⟨rfl,rfl⟩
 rw[hc5];simp only[aa];refine eJ ?_;refine ZSe (fun w hi=>mi L U'.m w (hi.get Zh)) ?_;refine Z_6 ?_;refine eH (fy rfl rfl) (.cons (dQ rfl) .nil) (fun _ _=>rfl) (fun hg w hi=>rM p w) rfl ?_;refine Z_4 ?_;refine ZW ?_ ?_<;>intro hc7
 ·rw[hc7];simp only[ac];refine Zs (bX ⟨fun j=>List.elem j [3],[]⟩ Zk ?_);refine ZE 0 ?_;refine ZI 1 ?_;refine ZE 2 ?_;refine cw 3 Zk ?_;refine ZR ?_;refine bN Zk ?_;refine Z_3 ?_;refine mR (cs':=[row _ _ _,exC _ _ _ _,row _ _ _]) (.inl rfl) Zu rfl rfl rfl Zh Zrf Zrf ?_;exact⟨rfl,rfl⟩
 rw[hc7];simp only[aa];refine Z_3 ?_;refine bX ⟨fun j=>List.elem j [2],[]⟩ Zk ?_;refine ZI 0 ?_;refine ZE 1 ?_;refine cw 2 Zk ?_;refine ZR ?_;refine bN Zk ?_;refine Z_2 ?_;refine mR (cs':=[row _ _ _,exC _ _ _ _,row _ _ _]) (.inl rfl) Zu rfl rfl rfl Zh Zrf Zrf ?_;exact⟨rfl,rfl⟩
theorem B3(bu bb:Nat)(L:gR)(U:Mmu)(hT:U.t.length=16)(s:Sp)(hr:s.root≤4294967295)(va k:Nat)(hva:va≤4294967295)(hk1:1≤k)(hk4:k≤4)(kind:Int)(w:World)(hi:Inv w (bK (uF bu bb L U)) (uF bu bb L U) w):
  Ctr prog 275 [.pointer (some ⟨bu,0,none⟩),s.v,.int .u32 va,.int .i64 k,.int .i64 kind] w (uF bu bb L U) (fun v cs=>∃A c,v= .tuple #[.slice A (eV L.n U s va k kind).1.1.length c,(eV L.n U s va k kind).1.2.v]∧cs=uF bu bb L (eV L.n U s va k kind).2++[sl .u32 22 A (eV L.n U s va k kind).1.1.length c (eV L.n U s va k kind).1.1]):=by
 have HP1:=nw bu bb L U hT s hr va hva kind;have hl1:=qS L.n U s va kind;obtain⟨p1,hp1⟩:=Zgn (cR L.n U s va kind);unfold eV;rw[hp1]at HP1 hl1⊢;rw[hT]at hl1;have HP2:=nw bu bb L p1.2 hl1 s hr (ed va) (kS va) kind;obtain⟨p2,hp2⟩:=Zgn (cR L.n p1.2 s (ed va) kind);unfold zV zU;rw[hp2]at HP2⊢;obtain⟨⟨a1,tr1⟩,U1⟩:=p1;obtain⟨⟨a2,tr2⟩,U2⟩:=p2;simp only at HP1 HP2⊢;refine bL func275 rfl ntmps275 rfl hi ?_;refine Z_2 ?_;refine ZO fun b6=>?_;refine ZA ?_;refine ZN fun b11=>?_
 refine jT ?_;refine bV rfl ((by rw[aD (show¬(k:Int)<1 by omega),aD (show¬(4:Int)<k by omega)];rfl)) ?_;refine Z_8 ?_;refine ZcM (uF bu bb L U) (fun w hi hin=>HP1 w hin) ?_;refine Z_3 ?_;refine ZN fun b13=>?_
 refine ZA ?_;refine dy (bY (vs:=tr1.cells) Zrf rfl rfl (iE rfl) Za (by exact rfl)) ?_;rintro _ _ ⟨rfl,rfl⟩;refine eJ ?_;refine ZW ?_ ?_<;>intro hc4
 ·rw[hc4];simp only[ac];refine Zs (bX ⟨fun j=>List.elem j [2],[]⟩ Zk ?_);refine Bv 22 1 ?_;refine ZI 0 ?_;refine ZE 1 ?_;refine cw 2 Zk ?_;refine ZR ?_;refine bN Zk ?_;refine Z_3 ?_;refine mR (cs':=[row _ _ _,exC _ _ _ _,row _ _ _,slv _ _ _ _ _ _]) (.inl rfl) Zu rfl rfl rfl Zh Zrf Zrf ?_;exact⟨_,_,rfl,rfl⟩
 rw[hc4];simp only[aa];refine Z_5 ?_;refine Zy (kp (Zv rfl) (Zv rfl) (by omega) (show _=((va%64:Nat):Int)from by rw[aW (by omega)];omega)) ?_;refine Zy (ce rfl rfl Zv0 Zl) ?_;refine Zy (eT (Zv rfl) (Zv rfl) (show IntKind.i64.wrap _=((64 - va%64:Nat):Int) by rw[IntWalk.i64_in _ ⟨by omega,by omega⟩];omega)) ?_;refine Z_7 ?_;refine Zy (kp (Zv rfl) (Zv rfl) (by omega) (show _=((va%64:Nat):Int)from by rw[aW (by omega)];omega)) ?_;refine Zy (eT Zv0 Zv0 rfl) ?_;refine Zy (cy (Zv rfl) (Zv rfl) (show IntKind.u32.wrap (IntKind.u32.wrap _+64)=((ed va:Nat):Int) by rw[aE,aE];unfold ed;omega)) ?_;refine Z_4 ?_;refine cS (fun q:Int×Mmu×Tr=>[(2,.int .u32 va),(3,.int .i64 k),(11,.pointer (some ⟨b11,0,none⟩)),(12,.int .u32 a1),(13,.pointer (some ⟨b13,0,none⟩)),(14,.int .i64 ((64 - va%64:Nat):Int)),(15,.int .u32 (ed va:Nat)),(16,.int .u32 q.1)]) (fun q=>uF bu bb L q.2.1++[trC b11 Tr.none,trC b13 q.2.2]) (fun q=>(bif decide (((64 - va%64:Nat):Int)<(k:Int))then bif tr2.Ie !=0 then((([]:List Int),tr2),U2)else fM a1 a2 va k tr2 U2 else fM a1 0 va k tr1 U1)=fM a1 q.1 va k q.2.2 q.2.1) ?_ ?_
 ·refine Z_7 ?_;refine ZW ?_ ?_<;>intro hc8
  ·have hsm:(bif decide (((64 - va%64:Nat):Int)<(k:Int))then bif tr2.Ie !=0 then((([]:List Int),tr2),U2)else fM a1 a2 va k tr2 U2 else fM a1 0 va k tr1 U1)=bif tr2.Ie !=0 then((([]:List Int),tr2),U2)else fM a1 a2 va k tr2 U2:=by rw[hc8];rfl
   refine Z_6 ?_;refine ZcM (uF bu bb L U1) (fun w hi hin=>HP2 w hin) ?_;refine Z_4 ?_;refine dy (bY (vs:=tr2.cells) Zrf rfl rfl (iE rfl) Za (by exact rfl)) ?_;rintro _ _ ⟨rfl,rfl⟩;refine Z_9 ?_;refine ZW ?_ ?_<;>intro hc10
   ·rw[hsm,hc10];simp only[ac];refine Zs (bX ⟨fun j=>List.elem j [2],[]⟩ Zk ?_);refine Bv 22 1 ?_;refine ZI 0 ?_;refine ZE 1 ?_;refine cw 2 Zk ?_;refine ZR ?_;refine bN Zk ?_;refine Z_3 ?_;refine mR (cs':=[row _ _ _,exC _ _ _ _,row _ _ _,slv _ _ _ _ _ _]) (.inl rfl) Zu rfl rfl rfl Zh Zrf Zrf ?_;exact⟨_,_,rfl,rfl⟩
   refine Zc ?_;refine cq ((a2,U2,tr2)) ?_ ?_ ?_
   ·exact hsm.trans (by rw[hc10];rfl)
   ·exact Zwk
   exact Zj
  have hsm:(bif decide (((64 - va%64:Nat):Int)<(k:Int))then bif tr2.Ie !=0 then((([]:List Int),tr2),U2)else fM a1 a2 va k tr2 U2 else fM a1 0 va k tr1 U1)=fM a1 0 va k tr1 U1:=by rw[hc8];rfl
  refine Zc ?_;refine cq ((0,U1,tr1)) ?_ ?_ ?_
  ·exact hsm
  ·exact Zwk
  exact Zj
 rintro⟨a2',U',tr'⟩ hq;dsimp only at hq;rw[hq];dsimp only;unfold fM;refine Z_5 ?_;refine ZSe (fun w hi=>rM a1 w) ?_;refine Z_3 ?_;refine ZW ?_ ?_<;>intro hc12
 ·rw[hc12];simp only[ac];refine Z_2 ?_;refine dC 22 1 ?_;refine Z_3 ?_;refine ZM ?_;refine Z_5 ?_;refine mR (cs':=[row _ _ _,exC _ _ _ _,row _ _ _,slv _ _ _ _ _ _]) (.inl rfl) Zu rfl rfl rfl Zh Zrf Zrf ?_;exact⟨_,_,rfl,rfl⟩
 rw[hc12];simp only[aa];refine Z_7 ?_;refine eH (cu rfl rfl) (.cons (dQ rfl) .nil) (fun _ _=>rfl) (fun hg w hi=>rM a2' w) rfl ?_;refine Z_4 ?_;refine ZW ?_ ?_<;>intro hc14
 ·rw[hc14];simp only[ac];refine Z_2 ?_;refine dC 22 1 ?_;refine Z_3 ?_;refine ZM ?_;refine Z_5 ?_;refine mR (cs':=[row _ _ _,exC _ _ _ _,row _ _ _,slv _ _ _ _ _ _]) (.inl rfl) Zu rfl rfl rfl Zh Zrf Zrf ?_;exact⟨_,_,rfl,rfl⟩
 rw[hc14];simp only[aa];refine Z_5 ?_;refine dC 22 1 ?_;refine eu ?_;refine cG (fun q:Nat×Option Addr×Nat=>[(11,.pointer (some ⟨b11,0,none⟩)),(12,.int .u32 a1),(13,.pointer (some ⟨b13,0,none⟩)),(14,.int .i64 ((64 - va%64:Nat):Int)),(16,.int .u32 a2'),(17,.slice q.2.1 (kN a1 a2' va q.1).length q.2.2),(78,.int .i64 k),(79,.int .i64 (q.1:Int))]) (fun q=>uF bu bb L U'++[trC b11 Tr.none,trC b13 tr',sl .u32 22 q.2.1 (kN a1 a2' va q.1).length q.2.2 (kN a1 a2' va q.1)]) (fun q=>q.1≤k) (fun q=>k - q.1) ((0,none,0)) ?_ ?_ ?_ ?_
 ·exact ax _
 ·exact Zwk
 ·exact Zu
 rintro⟨j,A1,c1⟩ hj;simp only at hj;dsimp only;refine Z_6 ?_;refine ZW ?_ ?_<;>intro hc18
 ·simp only[ap]at hc18;have hle:=vz a1 a2' va j;refine vg ?_;refine ZW ?_ ?_<;>intro hc20
  ·simp only[ap]at hc20;have he:kv a1 a2' va j=IntKind.u32.wrap (a1+(j:Int)):=by(unfold kv;rw[aB (by omega)];rfl)
   refine Z_4 ?_;refine Zy (ce rfl rfl Zv0 rfl) ?_;refine Zy (cy (Zv rfl) (Zv rfl) (show IntKind.u32.wrap (a1+IntKind.u32.wrap (j:Int))=kv a1 a2' va j by rw[he,u32_wrap_id (j:Int) (by omega) (by omega)])) ?_;refine dJ (bZ rfl rfl Zrf Zrf rfl rfl) rfl ?_;rintro _ _ ⟨b90,rfl,rfl⟩;refine dJ (cW (e:=22) (sz:=1) (bytes:=4) rfl rfl Za rfl rfl (fun w hi=>hi.rd (show Has _ (slv 22 1 (some ⟨b90,0,none⟩) 1 1 [.int .u32 (kv a1 a2' va j)])from Zh)) (iE rfl) (by simp only[maxLen];omega) (by omega)) rfl ?_;rintro _ _ ⟨A2,c2,rfl,rfl⟩;rw[show(kN a1 a2' va j).length+1=(kN a1 a2' va (j+1)).length by(rw[mh];simp),show ints .u32 (kN a1 a2' va j)++[Value.int .u32 (kv a1 a2' va j)]=ints .u32 (kN a1 a2' va (j+1)) by(rw[mh];exact cH _ [_])];refine Z_5 ?_;refine Zy (cy Zv0 Zv0 Zl) ?_;refine Z_2 ?_;refine ez ((j+1,A2,c2)) ?_ ?_ ?_
   ·exact⟨by show j+1≤k;omega,by show k - (j+1)<k - j;omega⟩
   ·exact Zwk
   exact Zu
  simp only[aj]at hc20;have he:kv a1 a2' va j=IntKind.u32.wrap (a2'+((j - (64 - va%64):Nat):Int)):=by(unfold kv;rw[aD (by omega)];rfl)
  refine Z_5 ?_;refine Zy (eT (Zv rfl) (Zv rfl) (show IntKind.i64.wrap ((j:Int) - ((64 - va%64:Nat):Int))=((j - (64 - va%64):Nat):Int) by rw[IntWalk.i64_in _ ⟨by omega,by omega⟩];omega)) ?_;refine Zy (ce rfl rfl Zv0 rfl) ?_;refine Zy (cy (Zv rfl) (Zv rfl) (show IntKind.u32.wrap (a2'+IntKind.u32.wrap ((j - (64 - va%64):Nat):Int))=kv a1 a2' va j by rw[he,u32_wrap_id (((j - (64 - va%64):Nat):Int)) (by omega) (by omega)])) ?_;refine dJ (bZ rfl rfl Zrf Zrf rfl rfl) rfl ?_;rintro _ _ ⟨b99,rfl,rfl⟩;refine dJ (cW (e:=22) (sz:=1) (bytes:=4) rfl rfl Za rfl rfl (fun w hi=>hi.rd (show Has _ (slv 22 1 (some ⟨b99,0,none⟩) 1 1 [.int .u32 (kv a1 a2' va j)])from Zh)) (iE rfl) (by simp only[maxLen];omega) (by omega)) rfl ?_;rintro _ _ ⟨A2,c2,rfl,rfl⟩;rw[show(kN a1 a2' va j).length+1=(kN a1 a2' va (j+1)).length by(rw[mh];simp),show ints .u32 (kN a1 a2' va j)++[Value.int .u32 (kv a1 a2' va j)]=ints .u32 (kN a1 a2' va (j+1)) by(rw[mh];exact cH _ [_])];refine Z_5 ?_;refine Zy (cy Zv0 Zv0 Zl) ?_;refine Z_2 ?_;refine ez ((j+1,A2,c2)) ?_ ?_ ?_
  ·exact⟨by show j+1≤k;omega,by show k - (j+1)<k - j;omega⟩
  ·exact Zwk
  exact Zu
 simp only[aj]at hc18;obtain rfl:j=k:=by omega
 refine Z_6 ?_;refine bX ⟨fun j=>List.elem j [3],[]⟩ Zk ?_;refine ZE 0 ?_;refine ZI 1 ?_;refine ZE 2 ?_;refine cw 3 Zk ?_;refine ZR ?_;refine bN Zk ?_;refine Z_2 ?_;refine mR (cs':=[row _ _ _,exC _ _ _ _,row _ _ _,slv _ _ _ _ _ _]) (.inl rfl) Zu rfl rfl rfl Zh Zrf Zrf ?_;exact⟨_,_,rfl,rfl⟩
theorem EI(bu bb:Nat)(L:gR)(U:Mmu)(hT:U.t.length=16)(s:Sp)(hr:s.root≤4294967295)(va k:Nat)(hva:va≤4294967295)(hk1:1≤k)(hk4:k≤4)(w:World)(hi:Inv w (bK (uF bu bb L U)) (uF bu bb L U) w):
  Ctr prog 251 [.pointer (some ⟨bu,0,none⟩),s.v,.int .u32 va,.int .i64 k] w (uF bu bb L U) (fun v cs=>v= .tuple #[.int .u32 (nS L.n U s va k).1.1,(nS L.n U s va k).1.2.v]∧cs=uF bu bb L (nS L.n U s va k).2):=by
 obtain⟨n1,n64,_⟩:=lc (hi.ok (eL L U.m) (by simp));have HS:=B3 bu bb L U hT s hr va k hva hk1 hk4 2;have hin0:=vy (n:=L.n) (U:=U) (s:=s) (va:=va) (k:=k) n64 hva (kind:=2) hk4;have hlen0:=oJ (n:=L.n) (U:=U) (s:=s) (va:=va) (k:=k) (kind:=2);unfold nS;obtain⟨sp,hsp⟩:=Zgn (eV L.n U s va k 2);rw[hsp]at HS hin0 hlen0⊢;obtain⟨⟨l,tr⟩,U'⟩:=sp;simp only at HS hin0 hlen0⊢;refine bL func251 rfl ntmps251 rfl hi ?_;refine Z_2 ?_;refine ZO fun b5=>?_;refine ZA ?_;refine ZN fun b9=>?_
 refine Z_8 ?_;refine ZcL (uF bu bb L U) (fun w hi hin=>HS w hin) ?_;rintro _ _ ⟨_,⟨A1,c1,rfl,rfl⟩,rfl⟩;refine Z_3 ?_;refine ZN fun b11=>?_
 refine ZA ?_;refine dy (bY (vs:=tr.cells) Zrf rfl rfl (iE rfl) Za (by exact rfl)) ?_;rintro _ _ ⟨rfl,rfl⟩;refine Z_4 ?_;refine jf (fun w hi=>lc (hi.get (show Has _ (eL L U'.m)from Zh))) (fun hmm=>?_);obtain⟨_,_,hdl,hdb,_⟩:=hmm;refine Z_6 ?_;have e0:gg U'.m.data (l.drop l.length)=0:=by(rw[List.drop_length];rfl)
 refine Z_2 ?_;refine Zy (eT Zv0 Zv0 Zl) ?_;refine Z_4 ?_;refine cG (fun j:Nat=>[(0,.pointer (some ⟨bu,0,none⟩)),(9,.pointer (some ⟨b9,0,none⟩)),(10,.slice A1 l.length c1),(11,.pointer (some ⟨b11,0,none⟩)),(12,.int .u32 (gg U'.m.data (l.drop j))),(13,.int .i64 ((j:Int) - 1))]) (fun _=>uF bu bb L U'++[sl .u32 22 A1 l.length c1 l,trC b9 Tr.none,trC b11 tr]) (fun j=>j≤l.length) (fun j=>j) (l.length) ?_ ?_ ?_ ?_
 ·exact aS _
 ·exact Zwk
 ·exact Zu
 rintro j hj;refine Z_7 ?_;refine ZW ?_ ?_<;>intro hc4
 ·simp only[ap]at hc4;obtain⟨i,rfl⟩:∃i,j=i+1:=⟨j - 1,by omega⟩;have hil:i<l.length:=by omega
  have hrange:=hin0 _ (List.getElem_mem hil);refine xg (fun w hi=>fu (hi.get (show Has _ (sl .u32 22 A1 l.length c1 l)from Zh)) (by omega)) ?_;rintro⟨ba,rfl⟩;obtain⟨an,han⟩:=ar hrange.1;refine Z_5 ?_;refine bX ⟨fun j=>List.elem j [],[]⟩ Zk ?_;refine ZE 0 ?_;refine ZE 1 ?_;refine ZFe 2 0 ?_;refine ZG 3 ?_;refine ZE 4 ?_;refine ZE 5 ?_;refine cN 6 rfl Zk Zk Zk (cC (j:=i) (sz:=1) (r:=i) rfl Zrf (Zv rfl) (Zv rfl) (fun _=>by omega) (fun _=>by omega) (by omega)) rfl ?_;refine eX 7 rfl Zk Zk Zk Zk (bO Zrf (Zv rfl)) (dH Zh (show(ints .u32 l)[i]? =some (.int .u32 (an:Int))from by rw[←han];exact qh hil)) rfl ?_;refine cw 8 Zk ?_;refine ZT (fun w hi=>yF L U'.m an (by omega) w (hi.get Zh)) ?_;rintro _ _ ⟨_,⟨rfl,rfl⟩,rfl⟩;refine ZE 9 ?_;refine ZE 10 ?_;refine ZE 11 ?_;refine ZE 12 ?_;refine ZE 13 ?_;refine bN Zk ?_;refine Z_2 ?_;have hg:=jJ hdb an;have hst:=uA hdb (show l.length≤4 by omega) hil;rw[han]at hst;refine ZA ?_;refine Zy (tS (Zv rfl) (Zv rfl) (by omega) rfl) ?_;refine ZA ?_;refine Zy (ce rfl rfl (Zv rfl) (by first|exact IntWalk.u32_in _ ⟨by omega,by omega⟩|exact rfl)) ?_;refine Zy (sb Zv0 Zv0 hst) ?_;refine Z_6 ?_;refine Zy (eT Zv0 Zv0 Zl) ?_;refine Z_2 ?_;refine cq (i) ?_ ?_ ?_
  ·exact⟨by omega,by omega⟩
  ·exact Zwk
  exact Zj
 simp only[aj]at hc4;obtain rfl:j=0:=by omega
 rw[List.drop_zero];refine Z_6 ?_;refine bX ⟨fun j=>List.elem j [3],[]⟩ Zk ?_;refine ZE 0 ?_;refine ZI 1 ?_;refine ZE 2 ?_;refine cw 3 Zk ?_;refine ZR ?_;refine bN Zk ?_;refine Z_2 ?_;refine bP (uF bu bb L U'++[trC b9 tr]) Zj ?_;refine mR (cs':=[row _ _ _,exC _ _ _ _,row _ _ _]) (.inl rfl) Zu rfl rfl rfl Zh Zrf Zrf ?_;exact⟨rfl,rfl⟩
theorem By(bu bb:Nat)(L:gR)(U:Mmu)(hT:U.t.length=16)(s:Sp)(hr:s.root≤4294967295)(va k:Nat)(v:Int)(hva:va≤4294967295)(hk1:1≤k)(hk4:k≤4)(w:World)(hi:Inv w (bK (uF bu bb L U)) (uF bu bb L U) w):
  Ctr prog 249 [.pointer (some ⟨bu,0,none⟩),s.v,.int .u32 va,.int .u32 v,.int .i64 k] w (uF bu bb L U) (fun x cs=>x=(mM L.n U s va k v).1.v∧cs=uF bu bb L (mM L.n U s va k v).2):=by
 obtain⟨n1,n64,_⟩:=lc (hi.ok (eL L U.m) (by simp));have HS:=B3 bu bb L U hT s hr va k hva hk1 hk4 3;have hin0:=vy (n:=L.n) (U:=U) (s:=s) (va:=va) (k:=k) n64 hva (kind:=3) hk4;have hlen0:=oJ (n:=L.n) (U:=U) (s:=s) (va:=va) (k:=k) (kind:=3);unfold mM;obtain⟨sp,hsp⟩:=Zgn (eV L.n U s va k 3);rw[hsp]at HS hin0 hlen0⊢;obtain⟨⟨l,tr⟩,U'⟩:=sp;simp only at HS hin0 hlen0⊢;refine bL func249 rfl ntmps249 rfl hi ?_;refine Z_2 ?_;refine ZO fun b6=>?_;refine ZN fun b10=>?_
 refine Z_8 ?_;refine ZcL (uF bu bb L U) (fun w hi hin=>HS w hin) ?_;rintro _ _ ⟨_,⟨A1,c1,rfl,rfl⟩,rfl⟩;refine Z_3 ?_;refine ZN fun b12=>?_
 refine ZA ?_;refine dy (bY (vs:=tr.cells) Zrf rfl rfl (iE rfl) Za (by exact rfl)) ?_;rintro _ _ ⟨rfl,rfl⟩;refine eu ?_;refine cG (fun j:Nat=>[(0,.pointer (some ⟨bu,0,none⟩)),(3,.int .u32 v),(10,.pointer (some ⟨b10,0,none⟩)),(12,.pointer (some ⟨b12,0,none⟩)),(23,.slice A1 l.length c1),(24,.int .i64 l.length),(25,.int .i64 (j:Int))]) (fun j=>uF bu bb L ⟨IH U'.m l v j,U'.t⟩++[sl .u32 22 A1 l.length c1 l,trC b10 Tr.none,trC b12 tr]) (fun j=>j≤l.length) (fun j=>l.length - j) (0) ?_ ?_ ?_ ?_
 ·exact ax _
 ·exact Zwk
 ·exact Zu
 rintro j hj;refine Z_6 ?_;refine ZW ?_ ?_<;>intro hc3
 ·simp only[ap]at hc3;have hil:j<l.length:=by omega
  have hrange:=hin0 _ (List.getElem_mem hil);refine xg (fun w hi=>fu (hi.get (show Has _ (sl .u32 22 A1 l.length c1 l)from Zh)) (by omega)) ?_;rintro⟨ba,rfl⟩;obtain⟨an,han⟩:=ar hrange.1;have hgd:(l.getD j 0).toNat=an:=by(rw[aw,ao hil];simp only[Option.getD_some,han];omega)
  refine Z_7 ?_;refine Zy (cC (j:=j) (sz:=1) (r:=j) rfl Zrf (Zv rfl) (Zv rfl) (fun _=>by omega) (fun _=>by omega) (by omega)) ?_;refine dX (bO Zrf (Zv rfl)) (dH Zh (show(ints .u32 l)[j]? =some (.int .u32 (an:Int))from by rw[←han];exact qh hil)) rfl ?_;refine Z_4 ?_;refine bX ⟨fun j=>List.elem j [10],[]⟩ Zk ?_;refine ZE 0 ?_;refine ZE 1 ?_;refine ZFe 2 0 ?_;refine ZG 3 ?_;refine ZE 4 ?_;refine ZE 5 ?_;refine ZE 6 ?_;refine cN 7 rfl Zk Zk Zk (iH Zv0 Zv0 rfl) rfl ?_;refine cN 8 rfl Zk Zk Zk (jw (Zv rfl) (Zv rfl) (by rw[IntWalk.i64_in _ ⟨by omega,by omega⟩];omega) rfl) rfl ?_;refine cN 9 rfl Zk Zk Zk (ce rfl rfl (Zv rfl) (xi v (show j<4 by omega))) rfl ?_;refine cw 10 Zk ?_;refine ZcA ([eL L (IH U'.m l v j)]) (fun w hi hin=>ue L (IH U'.m l v j) an (by omega) (qw v j) (nl v j) w hin) ?_;rintro _ _ ⟨_,⟨rfl,rfl⟩,rfl⟩;refine bN Zk ?_;refine Z_3 ?_;refine Zy (cy Zv0 Zv0 Zl) ?_;refine Z_2 ?_;refine cq (j+1) ?_ ?_ ?_
  ·exact⟨by omega,by omega⟩
  ·exact Zwk
  exact(show wY _ _ from by rw[show IH U'.m l v (j+1)=(IH U'.m l v j).put an (qw v j) by rw[IH,hgd]];exact Zj)
 simp only[aj]at hc3;obtain rfl:j=l.length:=by omega
 refine Z_8 ?_;refine ZM ?_;refine Z_3 ?_;refine bP (uF bu bb L ⟨IH U'.m l v l.length,U'.t⟩++[trC b10 tr]) Zj ?_;refine mS (cs':=[row _ _ _,exC _ _ _ _,row _ _ _]) (.inl rfl) Zu rfl rfl Zh Zrf Zrf ?_;exact⟨rfl,rfl⟩
end Go.Proofs.YtakodpimdalajaaGreatDoor
