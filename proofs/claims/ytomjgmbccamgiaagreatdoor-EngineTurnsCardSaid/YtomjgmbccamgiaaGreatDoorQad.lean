/- Lemmas. -/
import Derived.Test.YtomjgmbccamgiaaGreatDoorQaa
import Derived.Test.YtomjgmbccamgiaaGreatDoorQab
import Derived.Test.YtomjgmbccamgiaaGreatDoorQac
import Derived.Test.YtomjgmbccamgiaaGreatDoorProg
import Derived.Lib.EndianBits
set_option linter.unusedSimpArgs false
set_option linter.unusedVariables false
set_option maxRecDepth 100000
set_option maxHeartbeats 4000000
namespace Go.Ink
open Go.RowKit
def ls(l:List Bool):List Value:=l.map Value.bool
theorem jU(l:List Bool):(ls l).length=l.length:=by simp[ls]
theorem zL{l:List Bool}{j:Nat}{b:Bool}(h:l[j]? =some b):(ls l)[j]? =some (.bool b):=by simp[ls,h]
theorem EE(l:List Bool)(j:Nat)(b:Bool):(ls l).set j (.bool b)=ls (l.set j b):=by simp[ls,List.map_set]
theorem gC{k:IntKind}(xs:List Int)(j:Nat)(v:Int):(ints k xs).set j (.int k v)=ints k (xs.set j v):=by simp[ints,List.map_set]
def du(B ow pr:List Int):List Value:=ints .u8 B++(ints .i64 ow++ints .i64 pr)
structure fG(B ow pr:List Int):Prop where
 b:B.length=16384
 ow:ow.length=256
 pr:pr.length=4
section
variable {B ow pr:List Int}
theorem gN(h:fG B ow pr):(du B ow pr).length=16644:=by
 simp[du,cT,h.b,h.ow,h.pr]
theorem pool_B{i:Nat}{v:Int}(h:B[i]? =some v):(du B ow pr)[i]? =some (.int .u8 v):=by
 have hi:=(au.1 h).1;unfold du;rw[bE (by rw[cT];exact hi)];exact df h
theorem uM(hl:fG B ow pr){i:Nat}{v:Int}(h:ow[i]? =some v):(du B ow pr)[16384+i]? =some (.int .i64 v):=by
 have hi:=(au.1 h).1;unfold du;rw[bG (by rw[cT,hl.b];omega),cT,hl.b,show 16384+i - 16384=i by omega,bE (by rw[cT];exact hi)];exact df h
theorem CP(hl:fG B ow pr){i:Nat}{v:Int}(h:pr[i]? =some v):(du B ow pr)[16640+i]? =some (.int .i64 v):=by
 unfold du;rw[bG (by rw[cT,hl.b];omega),cT,hl.b,bG (by rw[cT,hl.ow];omega),cT,hl.ow,show 16640+i - 16384 - 256=i by omega];exact df h
theorem CO{i:Nat}(hi:i<B.length)(v:Int):(du B ow pr).set i (.int .u8 v)=du (B.set i v) ow pr:=by
 unfold du;rw[List.set_append_left _ _ (by rw[cT];exact hi),gC]
theorem tD(hl:fG B ow pr){i:Nat}(hi:i<256)(v:Int):(du B ow pr).set (16384+i) (.int .i64 v)=du B (ow.set i v) pr:=by
 unfold du;rw[List.set_append_right _ _ (by rw[cT,hl.b];omega),cT,hl.b,show 16384+i - 16384=i by omega,List.set_append_left _ _ (by rw[cT,hl.ow];exact hi),gC]
theorem tC(hl:fG B ow pr){i:Nat}(v:Int):(du B ow pr).set (16640+i) (.int .i64 v)=du B ow (pr.set i v):=by
 unfold du;rw[List.set_append_right _ _ (by rw[cT,hl.b];omega),cT,hl.b,List.set_append_right _ _ (by rw[cT,hl.ow];omega),cT,hl.ow,show 16640+i - 16384 - 256=i by omega,gC]
def eO(B:List Int)(f:Nat):List Int:=B.take (f*64)++List.replicate 64 0++B.drop (f*64+64)
theorem CN(hl:fG B ow pr){f:Nat}(hf:f<256):(du B ow pr).take (f*64)++List.replicate 64 (Value.int .u8 0)++(du B ow pr).drop (f*64+64)=du (eO B f) ow pr:=by
 unfold du eO;have h1:f*64≤(ints .u8 B).length:=by rw[cT,hl.b];omega
 have h2:f*64+64≤(ints .u8 B).length:=by rw[cT,hl.b];omega
 rw[List.take_append_of_le_length h1,List.drop_append_of_le_length h2,←aq _ _ (ints .i64 ow++ints .i64 pr)];congr 1;simp[ints,List.map_take,List.map_drop]
theorem t9(hB:B.length=16384){f:Nat}(hf:f<256):(eO B f).length=16384:=by
 simp only[eO,ae,az,aO,bz,hB];omega
theorem vr(hB:B.length=16384){f j:Nat}(hf:f<256)(hj:j<64):(eO B f)[f*64+j]? =some 0:=by
 unfold eO;rw[bE (by simp[hB];omega),bG (by simp[hB];omega)];simp only[az,hB];rw[show f*64+j - min (f*64) 16384=j by omega,List.getElem?_replicate,if_pos hj]
theorem t8(hB:B.length=16384){f i:Nat}(hf:f<256)(hi:i<f*64∨f*64+64≤i):(eO B f)[i]? =B[i]? :=by
 unfold eO;rcases hi with hi|hi
 ·rw[bE (by simp[hB];omega),bE (by simp[hB];omega),List.getElem?_take,if_pos hi]
 rw[bG (by simp[hB];omega),List.getElem?_drop];simp only[ae,az,aO,hB];congr 1;omega
end
def gD(ow:List Int)(o:Int)(k:Nat):List Int:=((List.range k).filter (fun f=>ow[f]? ==some o)).map (fun f:Nat=>(f:Int))
theorem rS(ow:List Int)(o:Int)(k:Nat):gD ow o (k+1)=gD ow o k++(bif ow[k]? ==some o then[(k:Int)]else[]):=by
 unfold gD;rw[List.range_succ,List.filter_append,List.map_append];congr 1;cases h:(ow[k]? ==some o)<;>simp[h]
theorem DP(ow:List Int)(o:Int)(k:Nat):(gD ow o k).length≤k:=by
 unfold gD;rw[List.length_map];exact aY (List.length_filter_le _ _) (by simp)
end Go.Ink
namespace Go.Proofs.YtomjgmbccamgiaaGreatDoor
open Go.RowKit Go.Ink Go.Proofs.Tryz
attribute [local irreducible] OpY bW
abbrev ff(bp:Nat)(B ow pr:List Int):bJ:=row bp (du B ow pr) 170
theorem D2(n:Int)(w:World):Ctr prog 101 [.int .i64 n] w [] (fun v cs=>v= .bool (decide (0≤n)&&decide (n<4))∧cs=[]):=by
 refine bL func101 rfl ntmps101 rfl (Inv.start w) ?_;refine vo ?_;refine Zra ?_;exact⟨rfl,rfl⟩
theorem GI(n:Int)(w:World):Ctr prog 134 [.int .i64 n] w [] (fun v cs=>v= .bool (decide (16≤n)&&decide (n<256))∧cs=[]):=by
 refine bL func134 rfl ntmps134 rfl (Inv.start w) ?_;refine vo ?_;refine Zra ?_;exact⟨rfl,rfl⟩
theorem F0(bp:Nat)(B ow pr:List Int)(hl:fG B ow pr)(f:Nat)(o:Int)(h1:16≤f)(h2:f<256)(h3:ow[f]? =some o)(h4:o≠ -1)(w:World)(hp:(ff bp B ow pr).ok w):
  Ctr prog 103 [.pointer (some ⟨bp,0,none⟩),.int .i64 f] w [] (fun v cs=>v= .tuple #[.int .i64 o,.bool true]∧cs=[]):=by
 refine bL func103 rfl ntmps103 rfl (Inv.start w) ?_;refine eK ?_;refine ZSe (fun w hi=>GI f w) ?_;rw[aG (show(16:Int)≤f by omega),aG (show(f:Int)<256 by omega)];refine Z_5 ?_;refine ZFb 16384 ?_;refine Zyn rfl rfl (dy (j:=f) (sz:=1) (r:=16384+f) rfl Zrf (dc rfl) (dc rfl) (fun _=>by omega) (fun _=>by omega) (by omega)) ?_;refine lA (bS rfl rfl) (bM Zrf (dc rfl)) (dL hp (uM hl h3)) rfl ?_;refine Z_4 ?_;refine bY rfl ((show(_||(o== -1))=false from by rw[beq_eq_false_iff_ne.2 h4];rfl)) ?_;refine Z_7 ?_;refine ZFa 16384 ?_;refine Zy (dy (j:=f) (sz:=1) (r:=16384+f) rfl Zrf (Zv rfl) (Zv rfl) (fun _=>by omega) (fun _=>by omega) (by omega)) ?_;refine dU (bM Zrf Zv0) (dL hp (uM hl h3)) rfl ?_;refine Z_5 ?_;refine fw (cs':=[]) (.inl rfl) Zu rfl rfl rfl ?_;exact⟨rfl,rfl⟩
theorem DO(bp:Nat)(B ow pr:List Int)(hl:fG B ow pr)(f a:Nat)(o:Int)(h1:16≤f)(h2:f<256)(h3:ow[f]? =some o)(h4:o≠ -1)(h5:a<64)(w:World)(hp:(ff bp B ow pr).ok w):
  Ctr prog 77 [.pointer (some ⟨bp,0,none⟩),.int .i64 f,.int .i64 a] w [] (fun v cs=>v= .bool true∧cs=[]):=by
 refine bL func77 rfl ntmps77 rfl (Inv.start w) ?_;refine Z_9 ?_;refine ZSe (fun w hi=>F0 bp B ow pr hl f o h1 h2 h3 h4 w (bJ.old hp hi)) ?_;refine ln ?_;refine Z_2 ?_;refine Zra ?_;rw[aG (show(0:Int)≤a by omega),aG (show(a:Int)<64 by omega)];exact⟨rfl,rfl⟩
theorem FZ(bp:Nat)(B ow pr:List Int)(hl:fG B ow pr)(f a:Nat)(o b:Int)(h1:16≤f)(h2:f<256)(h3:ow[f]? =some o)(h4:o≠ -1)(h5:a<64)(h6:B[f*64+a]? =some b)(w:World)(hp:(ff bp B ow pr).ok w):
  Ctr prog 73 [.pointer (some ⟨bp,0,none⟩),.int .i64 f,.int .i64 a] w [] (fun v cs=>v= .tuple #[.int .u8 b,.bool true]∧cs=[]):=by
 refine bL func73 rfl ntmps73 rfl (Inv.start w) ?_;refine gK ?_;refine ZSe (fun w hi=>DO bp B ow pr hl f a o h1 h2 h3 h4 h5 w (bJ.old hp hi)) ?_;refine Z_3 ?_;refine bY rfl (rfl) ?_;refine Z_9 ?_;refine Zy (dy (j:=f) (sz:=64) (r:=f*64) rfl Zrf (Zv rfl) (Zv rfl) (fun _=>by omega) (fun _=>by omega) (by omega)) ?_;refine Zy (dy (j:=a) (sz:=1) (r:=f*64+a) rfl Zrf (Zv rfl) (Zv rfl) (fun _=>by omega) (fun _=>by omega) (by omega)) ?_;refine dU (bM Zrf Zv0) (dL hp (pool_B h6)) rfl ?_;refine Z_5 ?_;refine fw (cs':=[]) (.inl rfl) Zu rfl rfl rfl ?_;exact⟨rfl,rfl⟩
theorem CG(bp:Nat)(B ow pr:List Int)(hl:fG B ow pr)(f a:Nat)(o b:Int)(h1:16≤f)(h2:f<256)(h3:ow[f]? =some o)(h4:o≠ -1)(h5:a<64)(w:World)(hi:Inv w (bK [ff bp B ow pr]) [ff bp B ow pr] w):
  Ctr prog 47 [.pointer (some ⟨bp,0,none⟩),.int .i64 f,.int .i64 a,.int .u8 b] w [ff bp B ow pr] (fun v cs=>v= .bool true∧cs=[ff bp (B.set (f*64+a) b) ow pr]):=by
 have hb:=hl.b;refine bL func47 rfl ntmps47 rfl hi ?_;refine eo ?_;refine ZSe (fun w hi=>DO bp B ow pr hl f a o h1 h2 h3 h4 h5 w (hi.get Zh)) ?_;refine Z_3 ?_;refine bY rfl (rfl) ?_;refine eK ?_;refine Zy (dy (j:=f) (sz:=64) (r:=f*64) rfl Zrf (Zv rfl) (Zv rfl) (fun _=>by omega) (fun _=>by omega) (by omega)) ?_;refine Zy (dy (j:=a) (sz:=1) (r:=f*64+a) rfl Zrf (Zv rfl) (Zv rfl) (fun _=>by omega) (fun _=>by omega) (by omega)) ?_;refine dz (dH Zrf rfl rfl rfl Za (by rw[gN hl];omega)) ?_;rintro _ _ ⟨rfl,rfl⟩;rw[CO (by omega)];refine Z_8 ?_;refine Zrb ([row _ _ _]) ?_;exact⟨rfl,rfl⟩
theorem held_ok(bp:Nat)(B ow pr:List Int)(hl:fG B ow pr)(o:Nat)(ho:o<4)(w:World)(hp:(ff bp B ow pr).ok w):
  Ctr prog 102 [.pointer (some ⟨bp,0,none⟩),.int .i64 o] w [] (fun v cs=>∃A c,v= .slice A (gD ow o 256).length c∧cs=[sl .i64 3 A (gD ow o 256).length c (gD ow o 256)]):=by
 refine bL func102 rfl ntmps102 rfl (Inv.start w) ?_;refine ic ?_;refine ZSe (fun w hi=>D2 o w) ?_;rw[aG (show(0:Int)≤o by omega),aG (show(o:Int)<4 by omega)];refine Z_3 ?_;refine bY rfl (rfl) ?_;refine Z_5 ?_;refine dB 3 1 ?_;refine Z_4 ?_;refine cJ (fun s:Nat×Option Addr×Nat=>[(0,.pointer (some ⟨bp,0,none⟩)),(1,.int .i64 o),(5,.slice s.2.1 (gD ow o s.1).length s.2.2),(11,.int .i64 s.1)]) (fun s=>[sl .i64 3 s.2.1 (gD ow o s.1).length s.2.2 (gD ow o s.1)]) (fun s=>s.1≤256) (fun s=>256 - s.1) ((0,none,0)) ?_ ?_ ?_ ?_
 ·exact aw _
 ·exact Zwk
 ·exact Zu
 rintro⟨k,A1,c1⟩ hk;simp only at hk;dsimp only;refine Z_6 ?_;refine ZW ?_ ?_<;>intro hc5
 ·simp only[ap]at hc5;have hkl:k<ow.length:=by(rw[hl.ow];omega)
  have hok:ow[k]? =some (ow[k]'hkl):=ak hkl;have hle:=DP ow o k;refine qp ?_;refine ZFa 16384 ?_;refine Zy (dy (j:=k) (sz:=1) (r:=16384+k) rfl Zrf (Zv rfl) (Zv rfl) (fun _=>by omega) (fun _=>by omega) (by omega)) ?_;refine dU (bM Zrf Zv0) (dL hp (uM hl hok)) rfl ?_;refine Z_4 ?_;refine ZW ?_ ?_<;>intro hc7
  ·have he:gD ow o (k+1)=gD ow o k++[(k:Int)]:=by(rw[rS,hok];have h2:ow[k]'hkl=(o:Int):=(by simpa using hc7);rw[h2];simp)
   refine Z_3 ?_;refine dM (cm rfl rfl Zrf Zrf rfl rfl) rfl ?_;rintro _ _ ⟨b24,rfl,rfl⟩;refine dM (cM (e:=3) (sz:=1) (bytes:=8) rfl rfl Za rfl rfl (fun w hi=>hi.rd Zh) (iK rfl) (by simp only[maxLen];omega) (by omega)) rfl ?_;rintro _ _ ⟨A2,c2,rfl,rfl⟩;rw[show(gD ow o k).length+1=(gD ow o (k+1)).length by(rw[he];simp),show ints .i64 (gD ow o k)++[Value.int .i64 (k:Int)]=ints .i64 (gD ow o (k+1)) by(rw[he];exact cD _ [_])];refine Z_5 ?_;refine Zy (cF Zv0 Zv0 Zl) ?_;refine Z_2 ?_;refine eh ((k+1,A2,c2)) ?_ ?_ ?_
   ·exact⟨by show k+1≤256;omega,by show 256 - (k+1)<256 - k;omega⟩
   ·exact Zwk
   exact Zu
  have he:gD ow o (k+1)=gD ow o k:=by(rw[rS,hok,show(some (ow[k]'hkl)==some (o:Int))=false from hc7];simp)
  rw[←he];refine Z_4 ?_;refine Zy (cF Zv0 Zv0 Zl) ?_;refine Z_2 ?_;refine eh ((k+1,A1,c1)) ?_ ?_ ?_
  ·exact⟨by show k+1≤256;omega,by show 256 - (k+1)<256 - k;omega⟩
  ·exact Zwk
  exact Zu
 simp only[aj]at hc5;obtain rfl:k=256:=by omega
 refine gK ?_;refine Zrb ([slv _ _ _ _ _ _]) ?_;exact⟨_,_,rfl,rfl⟩
theorem take_ok(bp:Nat)(B ow pr:List Int)(hl:fG B ow pr)(o:Nat)(ho:o<4)(n:Int)(hn:pr[o]? =some n)(hlt:((gD ow o 256).length:Int)<n)(f0:Nat)(h16:16≤f0)(h256:f0<256)(hf0:ow[f0]? =some (-1))(w:World)(hi:Inv w (bK [ff bp B ow pr]) [ff bp B ow pr] w):
  Ctr prog 76 [.pointer (some ⟨bp,0,none⟩),.int .i64 o] w [ff bp B ow pr] (fun v cs=>∃f:Nat,16≤f∧f<256∧ow[f]? =some (-1)∧v= .tuple #[.int .i64 f,.int .i64 0]∧cs=[ff bp (eO B f) (ow.set f o) pr]):=by
 have hb:=hl.b;have how:=hl.ow;refine bL func76 rfl ntmps76 rfl hi ?_;refine eo ?_;refine ZSe (fun w hi=>D2 o w) ?_;rw[aG (show(0:Int)≤o by omega),aG (show(o:Int)<4 by omega)];refine Z_4 ?_;refine bY rfl (rfl) ?_;refine Zs (cj ⟨fun j=>List.elem j [],[]⟩ Zk ?_);refine ZE 0 ?_;refine ZE 1 ?_;refine ZE 4 ?_;refine ZE 5 ?_;refine ZE 6 ?_;refine ZFe 7 16640 ?_;refine cR 8 rfl Zk Zk Zk (dy (j:=o) (sz:=1) (r:=16640+o) rfl Zrf (Zv rfl) (Zv rfl) (fun _=>by omega) (fun _=>by omega) (by omega)) rfl ?_;refine eQ 9 rfl Zk Zk Zk Zk (bM Zrf Zv0) (bR Zh (CP hl hn)) rfl ?_;refine cE 2 Zk ?_;refine ZT (fun w hi=>held_ok bp B ow pr hl o ho w (hi.get Zh)) ?_;rintro _ _ ⟨_,⟨A1,c1,rfl,rfl⟩,rfl⟩;refine ZE 3 ?_;refine ZE 10 ?_;refine ZE 11 ?_;refine bO Zk ?_;refine Zt (bY rfl ((aF (by omega))) ?_);refine eK ?_;refine cJ (fun k:Nat=>[(0,.pointer (some ⟨bp,0,none⟩)),(1,.int .i64 o),(6,.int .i64 (k:Int))]) (fun _=>[ff bp B ow pr]) (fun k=>16≤k∧k≤f0) (fun k=>f0 - k) (16) ?_ ?_ ?_ ?_
 ·exact⟨by omega,h16⟩
 ·exact Zwk
 ·exact Zu
 rintro k ⟨hk1,hk2⟩;refine Z_7 ?_;refine ZW ?_ ?_<;>intro hc6
 ·have hkl:k<ow.length:=by omega
  have hok:ow[k]? =some (ow[k]'hkl):=ak hkl;refine Z_9 ?_;refine ZFa 16384 ?_;refine Zy (dy (j:=k) (sz:=1) (r:=16384+k) rfl Zrf (Zv rfl) (Zv rfl) (fun _=>by omega) (fun _=>by omega) (by omega)) ?_;refine dU (bM Zrf Zv0) (bR Zh (uM hl hok)) rfl ?_;refine Z_3 ?_;refine ZW ?_ ?_<;>intro hc8
  ·have h2:ow[k]'hkl= -1:=(by simpa using hc8);rw[h2]at hok;refine Z_6 ?_;refine ZFa 16384 ?_;refine Zy (dy (j:=k) (sz:=1) (r:=16384+k) rfl Zrf (Zv rfl) (Zv rfl) (fun _=>by omega) (fun _=>by omega) (by omega)) ?_;refine dz (dH Zrf rfl rfl rfl Za (by rw[gN hl];omega)) ?_;rintro _ _ ⟨rfl,rfl⟩;rw[tD hl (show k<256 by omega)];have hl':fG B (ow.set k o) pr:=⟨hl.b,by rw[aL];exact hl.ow,hl.pr⟩;refine Z_6 ?_;refine Zy (iw (vs:=List.replicate 64 (Value.int .u8 0)) Zk (.inr ⟨_,_,_,rfl,fun _=>rfl⟩)) ?_;refine Z_2 ?_;refine Zy (dy (j:=k) (sz:=64) (r:=k*64) rfl Zrf (Zv rfl) (Zv rfl) (fun _=>by omega) (fun _=>by omega) (by omega)) ?_;refine dz (jG (n:=64) Zrf rfl rfl (fun u hu=>by rw[List.eq_of_mem_replicate hu];rfl) Za (aO) (by rw[gN hl',aO];omega)) ?_;rintro _ _ ⟨rfl,rfl⟩;rw[aO,CN hl' (show k<256 by omega)];refine qp ?_;refine fw (cs':=[row _ _ _]) (.inl rfl) Zu rfl rfl rfl ?_;exact⟨k,hk1,by omega,hok,rfl,rfl⟩
  have h2:ow[k]'hkl≠ -1:=(by simpa using hc8);have hne:k≠f0:=by(rintro rfl;rw[hok]at hf0;exact h2 (aJ hf0))
  refine Z_5 ?_;refine Zy (cF Zv0 Zv0 Zl) ?_;refine Z_2 ?_;refine eh (k+1) ?_ ?_ ?_
  ·exact⟨⟨by omega,by omega⟩,by omega⟩
  ·exact Zwk
  exact Zu
 exfalso;simp only[aj]at hc6;omega
end Go.Proofs.YtomjgmbccamgiaaGreatDoor
namespace Go.Ink
open Go.RowKit
theorem uA{α:Type}{n k:Nat}(a b:α)(h:k<n):(List.replicate k a++List.replicate (n - k) b).set k a=List.replicate (k+1) a++List.replicate (n - (k+1)) b:=by
 rw[List.set_append_right _ _ (by simp),aO,Nat.sub_self,show n - k=(n - (k+1))+1 by omega,List.replicate_succ,List.set_cons_zero,List.replicate_succ',aq]
 rfl
theorem uB{α:Type}(n:Nat)(a b:α):List.replicate n a++List.replicate (n - n) b=List.replicate n a:=by simp
theorem qv{α:Type}(n:Nat)(a b:α):List.replicate 0 a++List.replicate (n - 0) b=List.replicate n b:=by simp
theorem kW(k:IntKind)(n:Nat)(a:Int):List.replicate n (Value.int k a)=ints k (List.replicate n a):=by simp[ints]
theorem nS(n:Nat)(a:Bool):List.replicate n (Value.bool a)=ls (List.replicate n a):=by simp[ls]
theorem FW{B ow pr:List Int}(hl:fG B ow pr):((du B ow pr).drop 16640).take (ints .i64 pr).length=ints .i64 pr:=by
 unfold du;rw[←aq,List.drop_append,List.drop_eq_nil_of_le (by simp[cT,hl.b,hl.ow]),aR,show 16640 - (ints .u8 B++ints .i64 ow).length=0 by simp[cT,hl.b,hl.ow],List.drop_zero,bA]
def oQ(pr:List Int)(k:Nat):Int:=(pr.take k).foldl (fun s x=>s+(if 0>x then 0 else x)) 0
theorem tm{pr:List Int}{k:Nat}(h:k<pr.length):oQ pr (k+1)=oQ pr k+(if 0>pr[k]'h then 0 else pr[k]'h):=by
 unfold oQ;rw[List.take_succ_eq_append_getElem h,List.foldl_append]
 rfl
end Go.Ink
namespace Go.Proofs.YtomjgmbccamgiaaGreatDoor
open Go.RowKit Go.Ink Go.Proofs.Tryz
attribute [local irreducible] OpY bW
theorem fnew_ok(w:World):Ctr prog 57 [] w [] (fun v cs=>∃bp,v= .pointer (some ⟨bp,0,none⟩)∧cs=[ff bp (List.replicate 16384 0) (List.replicate 256 (-1)) (List.replicate 4 (-1))]):=by
 have hl1:∀k,k≤256→fG (List.replicate 16384 0) (List.replicate k (-1)++List.replicate (256 - k) 0) (List.replicate 4 0):=fun k hk=>⟨aO,by simp;omega,rfl⟩
 have hl2:∀k,k≤4→fG (List.replicate 16384 0) (List.replicate 256 (-1)) (List.replicate k (-1)++List.replicate (4 - k) 0):=fun k hk=>⟨aO,aO,by simp;omega⟩
 refine bL func57 rfl ntmps57 rfl (Inv.start w) ?_;refine Z_7 ?_;refine Zy (iw (vs:=du (List.replicate 16384 0) (List.replicate 256 0) (List.replicate 4 0)) Zk (.inl ⟨_,rfl,rfl⟩)) ?_;refine ZO fun b5=>?_
 rw[←qv 256 (-1:Int) 0];refine eK ?_;refine cJ (fun k:Nat=>[(1,.pointer (some ⟨b5,0,none⟩)),(6,.int .i64 (k:Int))]) (fun k=>[ff b5 (List.replicate 16384 0) (List.replicate k (-1)++List.replicate (256 - k) 0) (List.replicate 4 0)]) (fun k=>k≤256) (fun k=>256 - k) (0) ?_ ?_ ?_ ?_
 ·exact aw _
 ·exact Zwk
 ·exact Zu
 rintro k hk;refine Z_6 ?_;refine ZW ?_ ?_<;>intro hc3
 ·simp only[ap]at hc3;refine ic ?_;refine ZFa 16384 ?_;refine Zy (dy (j:=k) (sz:=1) (r:=16384+k) rfl Zrf (Zv rfl) (Zv rfl) (fun _=>by omega) (fun _=>by omega) (by omega)) ?_;refine dz (dH Zrf rfl rfl rfl Za (by rw[gN (hl1 k hk)];omega)) ?_;rintro _ _ ⟨rfl,rfl⟩;rw[tD (hl1 k hk) (by omega),uA _ _ (by omega)];refine Z_4 ?_;refine Zy (cF Zv0 Zv0 Zl) ?_;refine Z_2 ?_;refine eh (k+1) ?_ ?_ ?_
  ·exact⟨by omega,by omega⟩
  ·exact Zwk
  exact Zu
 simp only[aj]at hc3;obtain rfl:k=256:=by omega
 refine Z_8 ?_;rw[uB,←qv 4 (-1:Int) 0];refine Z_4 ?_;refine cJ (fun k:Nat=>[(1,.pointer (some ⟨b5,0,none⟩)),(15,.int .i64 (k:Int))]) (fun k=>[ff b5 (List.replicate 16384 0) (List.replicate 256 (-1)) (List.replicate k (-1)++List.replicate (4 - k) 0)]) (fun k=>k≤4) (fun k=>4 - k) (0) ?_ ?_ ?_ ?_
 ·exact aw _
 ·exact Zwk
 ·exact Zu
 rintro k hk;refine Z_6 ?_;refine ZW ?_ ?_<;>intro hc8
 ·simp only[ap]at hc8;refine ic ?_;refine ZFa 16640 ?_;refine Zy (dy (j:=k) (sz:=1) (r:=16640+k) rfl Zrf (Zv rfl) (Zv rfl) (fun _=>by omega) (fun _=>by omega) (by omega)) ?_;refine dz (dH Zrf rfl rfl rfl Za (by rw[gN (hl2 k hk)];omega)) ?_;rintro _ _ ⟨rfl,rfl⟩;rw[tC (hl2 k hk),uA _ _ (by omega)];refine Z_4 ?_;refine Zy (cF Zv0 Zv0 Zl) ?_;refine Z_2 ?_;refine eh (k+1) ?_ ?_ ?_
  ·exact⟨by omega,by omega⟩
  ·exact Zwk
  exact Zu
 simp only[aj]at hc8;obtain rfl:k=4:=by omega
 refine Z_7 ?_;rw[uB];refine Z_5 ?_;refine Zrb ([row _ _ _]) ?_;exact⟨_,rfl,rfl⟩
theorem AP(bp:Nat)(B ow pr:List Int)(hl:fG B ow pr)(o n:Nat)(ho:o<4)(hn:n≤64)(h1:pr[o]? =some (-1))(hs:(n:Int)+oQ pr 4≤240)(hb:∀x,x∈pr→x≤1000)(w:World)(hi:Inv w (bK [ff bp B ow pr]) [ff bp B ow pr] w):
  Ctr prog 99 [.pointer (some ⟨bp,0,none⟩),.int .i64 o,.int .i64 n] w [ff bp B ow pr] (fun v cs=>v= .int .i64 0∧cs=[ff bp B ow (pr.set o n)]):=by
 have hpl:=hl.pr;have hbd:∀k,k≤4→0≤oQ pr k∧oQ pr k≤1000*(k:Int):=by
  intro k
  induction k with
  |zero=>intro _;exact⟨by simp[oQ],by simp[oQ]⟩
  |succ k ih=>
   intro hk;have h1:=ih (by omega);have hkl:k<pr.length:=by omega
   have h2:=hb _ (List.getElem_mem hkl);rw[tm hkl];split<;>omega
 refine bL func99 rfl ntmps99 rfl hi ?_;refine eK ?_;refine ZSe (fun w hi=>D2 o w) ?_;rw[aG (show(0:Int)≤o by omega),aG (show(o:Int)<4 by omega)];refine gK ?_;refine bY rfl ((by rw[aF (show¬(n:Int)<0 by omega),aF (show¬(64:Int)<n by omega)];rfl)) ?_;refine Z_5 ?_;refine ZFa 16640 ?_;refine Zy (dy (j:=o) (sz:=1) (r:=16640+o) rfl Zrf (Zv rfl) (Zv rfl) (fun _=>by omega) (fun _=>by omega) (by omega)) ?_;refine dU (bM Zrf Zv0) (bR Zh (CP hl h1)) rfl ?_;refine Z_4 ?_;refine bY rfl (rfl) ?_;refine gK ?_;have e0:oQ pr 0=0:=rfl;refine Z_2 ?_;refine ZFa 16640 ?_;refine dU (cC (vs:=ints .i64 pr) Zrf (fun w=>by rw[cT,hpl];rfl) (Zv rfl)) (cL (o:=16640) Zh (FW hl)) rfl ?_;refine Z_4 ?_;refine cJ (fun k:Nat=>[(0,.pointer (some ⟨bp,0,none⟩)),(1,.int .i64 o),(2,.int .i64 n),(7,.int .i64 (n+oQ pr k)),(34,.agg (ints .i64 pr).toArray),(35,.int .i64 (k:Int))]) (fun _=>[ff bp B ow pr]) (fun k=>k≤4) (fun k=>4 - k) (0) ?_ ?_ ?_ ?_
 ·exact aw _
 ·exact Zwk
 ·exact Zu
 rintro k hk;refine Z_6 ?_;refine ZW ?_ ?_<;>intro hc7
 ·simp only[ap]at hc7;have hkl:k<pr.length:=by omega
  have hbk:=hbd k hk;have hbk2:=hb _ (List.getElem_mem hkl);refine Z_6 ?_;refine Zy (yy (j:=k) rfl Zrf Zrf (Zv rfl) (Zv rfl) (fun _=>by omega) (fun _=>by omega) (fun _=>mK hkl)) ?_;refine Z_6 ?_;refine Zy (zX Zv0 Zv0 rfl) ?_;refine dU (cF (pY rfl) (pY rfl) (show IntKind.i64.wrap _=n+oQ pr (k+1) by rw[tm hkl];refine(IntWalk.i64_in _ ⟨?_,?_⟩).trans (by omega)<;>split<;>omega)) (fun _ _=>trivial) rfl ?_;refine Z_5 ?_;refine Zy (cF Zv0 Zv0 Zl) ?_;refine Z_2 ?_;refine eh (k+1) ?_ ?_ ?_
  ·exact⟨by omega,by omega⟩
  ·exact Zwk
  exact Zu
 simp only[aj]at hc7;obtain rfl:k=4:=by omega
 refine gK ?_;refine bY rfl ((aF (by omega))) ?_;refine Z_8 ?_;refine ZFa 16640 ?_;refine Zy (dy (j:=o) (sz:=1) (r:=16640+o) rfl Zrf (Zv rfl) (Zv rfl) (fun _=>by omega) (fun _=>by omega) (by omega)) ?_;refine dz (dH Zrf rfl rfl rfl Za (by rw[gN hl];omega)) ?_;rintro _ _ ⟨rfl,rfl⟩;rw[tC hl];refine Z_8 ?_;refine Zrb ([row _ _ _]) ?_;exact⟨rfl,rfl⟩
abbrev jc(bt bp:Nat)(o:Nat)(bf bg n:Nat):bJ:=row bt [.pointer (some ⟨bp,0,none⟩),.int .i64 o,.slice (some ⟨bf,0,none⟩) n n,.slice (some ⟨bg,0,none⟩) n n] 163
abbrev frC(bf n:Nat)(fr:List Int):bJ:=sl .i64 3 (some ⟨bf,0,none⟩) n n fr
abbrev gdC(bg n:Nat)(gd:List Bool):bJ:=slv 4 1 (some ⟨bg,0,none⟩) n n (ls gd)
theorem nnew_ok(bp:Nat)(B ow pr:List Int)(hl:fG B ow pr)(o n:Nat)(ho:o<4)(hn0:1≤n)(hn:n≤64)(h1:pr[o]? =some (-1))(hs:(n:Int)+oQ pr 4≤240)(hb:∀x,x∈pr→x≤1000)(w:World)(hi:Inv w (bK [ff bp B ow pr]) [ff bp B ow pr] w):
  Ctr prog 58 [.pointer (some ⟨bp,0,none⟩),.int .i64 o,.int .i64 n] w [ff bp B ow pr] (fun v cs=>∃bt bf bg,v= .tuple #[.pointer (some ⟨bt,0,none⟩),.int .i64 0]∧cs=[ff bp B ow (pr.set o n),jc bt bp o bf bg n,frC bf n (List.replicate n (-1)),gdC bg n (List.replicate n false)]):=by
 refine bL func58 rfl ntmps58 rfl hi ?_;refine ln ?_;refine Z_9 ?_;refine bY rfl ((by rw[aF (show¬(o:Int)<0 by omega),aF (show¬(4:Int)≤o by omega),aF (show¬(n:Int)<1 by omega),aF (show¬(64:Int)<n by omega)];rfl)) ?_;refine Z_8 ?_;refine ZcM ([ff bp B ow pr]) (fun w hi hin=>AP bp B ow pr hl o n ho hn h1 hs hb w hin) ?_;refine Z_9 ?_;refine bY rfl (rfl) ?_;refine Z_3 ?_;refine cj ⟨fun j=>List.elem j [],[]⟩ Zk ?_;refine ZE 0 ?_;refine ZE 1 ?_;refine ZE 2 ?_;refine ZE 4 ?_;refine j4 3 5 Zk ?_ ?_
 ·refine gu rfl rfl (jr (bytes:=8) (n:=n) rfl rfl rfl rfl rfl rfl rfl (by omega) (by simp only[maxLen];omega)) ZJ rfl ?_;rintro _ _ ⟨b39,rfl,rfl⟩;refine cE 5 Zk ?_;refine gu rfl rfl (jr (bytes:=1) (n:=n) rfl rfl rfl rfl rfl rfl rfl (by omega) (by simp only[maxLen];omega)) ZJ rfl ?_;rintro _ _ ⟨b41,rfl,rfl⟩;refine ZE 6 ?_;refine cE 7 Zk ?_;refine gu rfl rfl (qX rfl rfl) ZJ rfl ?_;rintro _ _ ⟨b43,rfl,rfl⟩;refine ZE 8 ?_;refine bO Zk ?_;refine Z_4 ?_;rw[kW,nS,←qv n (-1:Int) 0];refine kQ [ff bp B ow (pr.set o n),jc b43 bp o b39 b41 n,frC b39 n (List.replicate 0 (-1)++List.replicate (n - 0) 0),gdC b41 n (List.replicate n false)] Zj ?_;refine Z_9 ?_;refine cJ (fun k:Nat=>[(9,.pointer (some ⟨b43,0,none⟩)),(48,.int .i64 n),(49,.int .i64 (k:Int))]) (fun k=>[ff bp B ow (pr.set o n),jc b43 bp o b39 b41 n,frC b39 n (List.replicate k (-1)++List.replicate (n - k) 0),gdC b41 n (List.replicate n false)]) (fun k=>k≤n) (fun k=>n - k) (0) ?_ ?_ ?_ ?_
  ·exact aw _
  ·exact Zwk
  ·exact Zu
  rintro k hk;refine Z_6 ?_;refine ZW ?_ ?_<;>intro hc8
  ·simp only[ap]at hc8;refine p5 ?_;refine Zy (cI (j:=k) (sz:=1) (r:=k) rfl Zrf (Zv rfl) (Zv rfl) (fun _=>by omega) (fun _=>by omega) (by omega)) ?_;refine dz (gi Zrf rfl rfl rfl Za (by omega)) ?_;rintro _ _ ⟨rfl,rfl⟩;rw[gC,uA _ _ (by omega)];refine Z_4 ?_;refine Zy (cF Zv0 Zv0 Zl) ?_;refine Z_2 ?_;refine eh (k+1) ?_ ?_ ?_
   ·exact⟨by omega,by omega⟩
   ·exact Zwk
   exact Zu
  simp only[aj]at hc8;obtain rfl:k=n:=by omega
  rw[uB];refine jW ?_;refine fw (cs':=[row _ _ _,row _ _ _,slv _ _ _ _ _ _,slv _ _ _ _ _ _]) (.inl rfl) Zu rfl rfl rfl ?_;exact⟨_,_,_,rfl,rfl⟩
 refine gu rfl rfl (jr (bytes:=1) (n:=n) rfl rfl rfl rfl rfl rfl rfl (by omega) (by simp only[maxLen];omega)) ZJ rfl ?_;rintro _ _ ⟨b41,rfl,rfl⟩;refine cE 3 Zk ?_;refine gu rfl rfl (jr (bytes:=8) (n:=n) rfl rfl rfl rfl rfl rfl rfl (by omega) (by simp only[maxLen];omega)) ZJ rfl ?_;rintro _ _ ⟨b39,rfl,rfl⟩;refine ZE 6 ?_;refine cE 7 Zk ?_;refine gu rfl rfl (qX rfl rfl) ZJ rfl ?_;rintro _ _ ⟨b43,rfl,rfl⟩;refine ZE 8 ?_;refine bO Zk ?_;refine Z_4 ?_;rw[kW,nS,←qv n (-1:Int) 0];refine kQ [ff bp B ow (pr.set o n),jc b43 bp o b39 b41 n,frC b39 n (List.replicate 0 (-1)++List.replicate (n - 0) 0),gdC b41 n (List.replicate n false)] Zj ?_;refine Z_9 ?_;refine cJ (fun k:Nat=>[(9,.pointer (some ⟨b43,0,none⟩)),(48,.int .i64 n),(49,.int .i64 (k:Int))]) (fun k=>[ff bp B ow (pr.set o n),jc b43 bp o b39 b41 n,frC b39 n (List.replicate k (-1)++List.replicate (n - k) 0),gdC b41 n (List.replicate n false)]) (fun k=>k≤n) (fun k=>n - k) (0) ?_ ?_ ?_ ?_
 ·exact aw _
 ·exact Zwk
 ·exact Zu
 rintro k hk;refine Z_6 ?_;refine ZW ?_ ?_<;>intro hc8
 ·simp only[ap]at hc8;refine p5 ?_;refine Zy (cI (j:=k) (sz:=1) (r:=k) rfl Zrf (Zv rfl) (Zv rfl) (fun _=>by omega) (fun _=>by omega) (by omega)) ?_;refine dz (gi Zrf rfl rfl rfl Za (by omega)) ?_;rintro _ _ ⟨rfl,rfl⟩;rw[gC,uA _ _ (by omega)];refine Z_4 ?_;refine Zy (cF Zv0 Zv0 Zl) ?_;refine Z_2 ?_;refine eh (k+1) ?_ ?_ ?_
  ·exact⟨by omega,by omega⟩
  ·exact Zwk
  exact Zu
 simp only[aj]at hc8;obtain rfl:k=n:=by omega
 rw[uB];refine jW ?_;refine fw (cs':=[row _ _ _,row _ _ _,slv _ _ _ _ _ _,slv _ _ _ _ _ _]) (.inl rfl) Zu rfl rfl rfl ?_;exact⟨_,_,_,rfl,rfl⟩
end Go.Proofs.YtomjgmbccamgiaaGreatDoor
namespace Go.Ink
open Go.RowKit
structure gQ where
 bp:Nat
 bt:Nat
 bf:Nat
 bg:Nat
 bm:Nat
 o:Nat
 n:Nat
structure Mem where
 data:List Int
 Ip:List Bool
structure MemK where
 B:List Int
 ow:List Int
 pr:List Int
 fr:List Int
 gd:List Bool
structure fH(L:gQ)(M:Mem)(k:MemK):Prop where
 pl:fG k.B k.ow k.pr
 o4:L.o<4
 n1:1≤L.n
 n64:L.n≤64
 fr:k.fr.length=L.n
 gd:k.gd.length=L.n
 dl:M.data.length=L.n*64
 tl:M.Ip.length=64
 db:u8s M.data
 Iy:∀p,p<L.n→(k.fr[p]? =some (-1)∧∀j,j<64→M.data[p*64+j]? =some 0)∨(∃f:Nat,k.fr[p]? =some (f:Int)∧16≤f∧f<256∧k.ow[f]? =some (L.o:Int)∧∀j,j<64→k.B[f*64+j]? =M.data[p*64+j]?)
 inj:∀p q f:Nat,k.fr[p]? =some (f:Int)→k.fr[q]? =some (f:Int)→p=q
 held:∀f:Nat,f<256→k.ow[f]? =some (-1)∨(k.ow[f]? =some (L.o:Int)∧∃p:Nat,k.fr[p]? =some (f:Int))
 prom:k.pr[L.o]? =some (L.n:Int)
def Mem.put(M:Mem)(a:Nat)(b:Int):Mem:=⟨M.data.set a b,M.Ip.set (a/64) true⟩
def Mem.calm(M:Mem):Mem:=⟨M.data,List.replicate 64 false⟩
theorem lQ:∀(n:Nat) (l:List Nat),l.Nodup→(∀x,x∈l→x<n)→l.length≤n
 |0,l,_,h=>by
  cases l with
  |nil=>simp
  |cons x l=>have:=h x (by simp);omega
 |n+1,l,hn,h=>by
  by_cases hm:n∈l
  ·have h1:=lQ n (l.erase n) (hn.erase n) (fun x hx=>by
    have h2:=(hn.mem_erase_iff).1 hx;have h3:=h x h2.2;have:=h2.1;omega)
   rw[List.length_erase_of_mem hm]at h1;omega
  have h1:=lQ n l hn (fun x hx=>by
   have h3:=h x hx;have:x≠n:=fun e=>hm (e▸hx)
   omega)
  omega
section
variable {L:gQ} {M:Mem} {k:MemK}
theorem DG{l:List Int}{f:Int}(h:f∈l):l[l.idxOf f]? =some f:=by
 have hlt:l.idxOf f<l.length:=List.idxOf_lt_length_of_mem h;rw[ak hlt,List.getElem_idxOf]
theorem rQ{l:List Int}:∀{fs:List Nat},fs.Nodup→(∀f,f∈fs→((f:Nat):Int)∈l)→(fs.map fun f:Nat=>l.idxOf (f:Int)).Nodup
 |[],_,_=>by simp
 |f::fs,hn,h=>by
  simp only[List.map_cons,List.nodup_cons]at hn⊢;refine⟨fun hm=>?_,rQ hn.2 (fun g hg=>h g (by simp[hg]))⟩;obtain⟨g,hg,he⟩:=bh.1 hm;have h1:=DG (h g (by simp[hg]));have h2:=DG (h f (by simp));rw[he,h2]at h1;have:f=g:=by have:=aJ h1;omega
  exact hn.1 (this▸hg)
theorem Hw{l:List Int}{p:Nat}{v:Int}(h:l[p]? =some v):v∈l:=aK h
theorem fH.heldLt(h:fH L M k){p:Nat}(hp:k.fr[p]? =some (-1)):(gD k.ow L.o 256).length<L.n:=by
 unfold gD;rw[List.length_map];obtain⟨fs,hfs⟩:=Zgn ((List.range 256).filter (fun f=>k.ow[f]? ==some (L.o:Int)));rw[hfs];have hmem:∀f,f∈fs→((f:Nat):Int)∈k.fr:=fun f hf=>by
  rw[←hfs,List.mem_filter,List.mem_range]at hf;rcases h.held f hf.1 with h1|⟨_,q,hq⟩
  ·rw[h1]at hf;have:=hf.2;simp at this
  exact Hw hq
 have hnd:fs.Nodup:=by rw[←hfs];exact List.filter_sublist.nodup List.nodup_range
 have h1:=rQ hnd hmem;have hpl:p<L.n:=by have:=(au.1 hp).1;rw[h.fr]at this;exact this
 have h2:=lQ L.n (p::fs.map fun f:Nat=>k.fr.idxOf (f:Int)) (List.nodup_cons.2 ⟨fun hm=>by
  obtain⟨f,hf,he⟩:=bh.1 hm;have:=DG (hmem f hf);rw[he,hp]at this;have:=aJ this;omega,h1⟩) (fun x hx=>by
  rcases aM.1 hx with rfl|hx
  ·exact hpl
  obtain⟨f,hf,rfl⟩:=bh.1 hx;have:=List.idxOf_lt_length_of_mem (hmem f hf);rw[h.fr]at this;exact this)
 simp only[ai,List.length_map]at h2;omega
theorem fH.free(h:fH L M k):∃f,16≤f∧f<256∧k.ow[f]? =some (-1):=by
 apply Classical.byContradiction;intro hno;have hmem:∀f,f∈List.range' 16 240→((f:Nat):Int)∈k.fr:=fun f hf=>by
  rw[List.mem_range'_1]at hf;rcases h.held f (by omega)with h1|⟨_,q,hq⟩
  ·exact absurd ⟨f,hf.1,by omega,h1⟩ hno
  exact Hw hq
 have h1:=rQ (List.nodup_range' (s:=16) (n:=240)) hmem;have h2:=lQ L.n _ h1 (fun x hx=>by
  obtain⟨f,hf,rfl⟩:=bh.1 hx;have:=List.idxOf_lt_length_of_mem (hmem f hf);rw[h.fr]at this;exact this)
 rw[List.length_map,List.length_range']at h2;have:=h.n64;omega
theorem fH.at_(h:fH L M k){a:Nat}(ha:a<L.n*64):∃b,M.data[a]? =some b∧0≤b∧b≤255:=by
 have hl:a<M.data.length:=by rw[h.dl];exact ha
 refine⟨M.data[a],ak hl,h.db _ (List.getElem_mem hl)⟩
theorem fH.putF(h:fH L M k){p j f:Nat}{b:Int}(hj:j<64)(hb:0≤b∧b≤255)(hf:k.fr[p]? =some (f:Int)):fH L (M.put (p*64+j) b) {k with B:=k.B.set (f*64+j) b}:=by
 have hpl:p<L.n:=by have:=(au.1 hf).1;rw[h.fr]at this;exact this
 have hBl:=h.pl.b;have hf256:f<256:=by
  rcases h.Iy p hpl with⟨h1,_⟩|⟨f',h1,h2,h3,_⟩
  ·rw[hf]at h1;have:=aJ h1;omega
  rw[hf]at h1;have:=aJ h1;omega
 refine⟨⟨by rw[aL];exact h.pl.b,h.pl.ow,h.pl.pr⟩,h.o4,h.n1,h.n64,h.fr,h.gd,by show(M.data.set _ _).length=_;rw[aL];exact h.dl,by show(M.Ip.set _ _).length=_;rw[aL];exact h.tl,?_,?_,h.inj,h.held,h.prom⟩
 ·intro x hx;rcases List.mem_or_eq_of_mem_set hx with h1|h1
  ·exact h.db x h1
  rw[h1];exact hb
 intro q hq;show(k.fr[q]? =some (-1)∧∀i,i<64→(M.data.set (p*64+j) b)[q*64+i]? =some 0)∨(∃g:Nat,k.fr[q]? =some (g:Int)∧16≤g∧g<256∧k.ow[g]? =some (L.o:Int)∧∀i,i<64→(k.B.set (f*64+j) b)[g*64+i]? =(M.data.set (p*64+j) b)[q*64+i]?);rcases h.Iy q hq with⟨h1,h2⟩|⟨g,h1,h2,h3,h4,h5⟩
 ·left;have hne:q≠p:=by rintro rfl;rw[hf]at h1;have:=aJ h1;omega
  refine⟨h1,fun i hi=>?_⟩;rw[List.getElem?_set_ne (by omega)];exact h2 i hi
 right;refine⟨g,h1,h2,h3,h4,fun i hi=>?_⟩;by_cases hqp:q=p
 ·subst hqp;have hg:g=f:=by rw[hf]at h1;have:=aJ h1;omega
  subst hg;rw[List.getElem?_set,List.getElem?_set];by_cases hij:j=i
  ·subst hij;have hdl:=h.dl;rw[if_pos rfl,if_pos rfl,if_pos (by omega),if_pos (by rw[hdl];omega)]
  rw[if_neg (by omega),if_neg (by omega)];exact h5 i hi
 have hgf:g≠f:=by
  rintro rfl;exact hqp (h.inj q p g h1 hf)
 rw[List.getElem?_set_ne (by omega),List.getElem?_set_ne (by omega)];exact h5 i hi
theorem fH.map(h:fH L M k){p f:Nat}(hp:p<L.n)(hf:k.fr[p]? =some (-1))(h16:16≤f)(h256:f<256)(hw:k.ow[f]? =some (-1)):fH L M {k with B:=eO k.B f,ow:=k.ow.set f L.o,fr:=k.fr.set p f}:=by
 have hBl:=h.pl.b;have howl:=h.pl.ow;have hfl:=h.fr;have hnof:∀q:Nat,k.fr[q]? ≠some (f:Int):=fun q hq=>by
  have hql:q<L.n:=by have:=(au.1 hq).1;rw[h.fr]at this;exact this
  rcases h.Iy q hql with⟨h1,_⟩|⟨g,h1,_,_,h4,_⟩
  ·rw[hq]at h1;have:=aJ h1;omega
  rw[hq]at h1;have:g=f:=by have:=aJ h1;omega
  subst this;rw[hw]at h4;have:=aJ h4;omega
 have hz:∀j,j<64→M.data[p*64+j]? =some 0:=by
  rcases h.Iy p hp with⟨_,h2⟩|⟨g,h1,_⟩
  ·exact h2
  rw[hf]at h1;have:=aJ h1;omega
 refine⟨⟨t9 hBl h256,by rw[aL];exact h.pl.ow,h.pl.pr⟩,h.o4,h.n1,h.n64,by show(k.fr.set _ _).length=_;rw[aL];exact h.fr,h.gd,h.dl,h.tl,h.db,?_,?_,?_,h.prom⟩
 ·intro q hq;show((k.fr.set p (f:Int))[q]? =some (-1)∧∀i,i<64→M.data[q*64+i]? =some 0)∨(∃g:Nat,(k.fr.set p (f:Int))[q]? =some (g:Int)∧16≤g∧g<256∧(k.ow.set f (L.o:Int))[g]? =some (L.o:Int)∧∀i,i<64→(eO k.B f)[g*64+i]? =M.data[q*64+i]?);by_cases hqp:q=p
  ·subst hqp;right;refine⟨f,by rw[List.getElem?_set,if_pos rfl,if_pos (by omega)],h16,h256,by rw[List.getElem?_set,if_pos rfl,if_pos (by omega)],fun i hi=>?_⟩;rw[vr hBl h256 hi,hz i hi]
  rw[List.getElem?_set_ne (by omega)];rcases h.Iy q hq with h1|⟨g,h1,h2,h3,h4,h5⟩
  ·exact .inl h1
  right;have hgf:g≠f:=by rintro rfl;exact hnof q h1
  refine⟨g,h1,h2,h3,by rw[List.getElem?_set_ne (by omega)];exact h4,fun i hi=>?_⟩;rw[t8 hBl h256 (by omega)];exact h5 i hi
 ·intro a b g ha hb;show a=b
  change (k.fr.set p (f:Int))[a]? =_ at ha
  change (k.fr.set p (f:Int))[b]? =_ at hb
  by_cases hap:a=p
  ·by_cases hbp:b=p
   ·omega
   subst hap;rw[List.getElem?_set,if_pos rfl,if_pos (by omega)]at ha;rw[List.getElem?_set_ne (by omega)]at hb;have:f=g:=by have:=aJ ha;omega
   subst this;exact absurd hb (hnof b)
  by_cases hbp:b=p
  ·subst hbp;rw[List.getElem?_set,if_pos rfl,if_pos (by omega)]at hb;rw[List.getElem?_set_ne (by omega)]at ha;have:f=g:=by have:=aJ hb;omega
   subst this;exact absurd ha (hnof a)
  rw[List.getElem?_set_ne (by omega)]at ha hb;exact h.inj a b g ha hb
 intro g hg;show(k.ow.set f (L.o:Int))[g]? =some (-1)∨((k.ow.set f (L.o:Int))[g]? =some (L.o:Int)∧∃q:Nat,(k.fr.set p (f:Int))[q]? =some (g:Int));by_cases hgf:g=f
 ·subst hgf;right;exact⟨by rw[List.getElem?_set,if_pos rfl,if_pos (by omega)],p,by rw[List.getElem?_set,if_pos rfl,if_pos (by omega)]⟩
 rw[List.getElem?_set_ne (by omega)];rcases h.held g hg with h1|⟨h1,q,hq⟩
 ·exact .inl h1
 right;refine⟨h1,q,?_⟩;have:q≠p:=by rintro rfl;rw[hf]at hq;have:=aJ hq;omega
 rw[List.getElem?_set_ne (by omega)];exact hq
theorem fH.put0(h:fH L M k){p j:Nat}(hj:j<64)(hp:p<L.n)(hf:k.fr[p]? =some (-1)):fH L (M.put (p*64+j) 0) k:=by
 have hz:M.data[p*64+j]? =some 0:=by
  rcases h.Iy p hp with⟨_,h2⟩|⟨g,h1,_⟩
  ·exact h2 j hj
  rw[hf]at h1;have:=aJ h1;omega
 have e:M.data.set (p*64+j) 0=M.data:=by
  apply List.ext_getElem?;intro i;rw[List.getElem?_set];split
  ·rename_i hi;subst hi;have:=(au.1 hz).1;rw[if_pos this,hz]
  rfl
 unfold Mem.put;rw[e];exact⟨h.pl,h.o4,h.n1,h.n64,h.fr,h.gd,h.dl,by show(M.Ip.set _ _).length=_;rw[aL];exact h.tl,h.db,h.Iy,h.inj,h.held,h.prom⟩
theorem fH.calm(h:fH L M k):fH L M.calm k:=⟨h.pl,h.o4,h.n1,h.n64,h.fr,h.gd,h.dl,aO,h.db,h.Iy,h.inj,h.held,h.prom⟩
end
def Mem.new(n:Nat):Mem:=⟨List.replicate (n*64) 0,List.replicate 64 false⟩
theorem fH.new{L:gQ}(ho:L.o<4)(h1:1≤L.n)(h64:L.n≤64):fH L (Mem.new L.n) ⟨List.replicate 16384 0,List.replicate 256 (-1),(List.replicate 4 (-1)).set L.o L.n,List.replicate L.n (-1),List.replicate L.n false⟩:=by
 refine⟨⟨aO,aO,by rw[aL];rfl⟩,ho,h1,h64,aO,aO,aO,aO,?_,?_,?_,?_,?_⟩
 ·intro x hx;have:=List.eq_of_mem_replicate hx;omega
 ·intro p hp;left;refine⟨by rw[List.getElem?_replicate,if_pos hp],fun j hj=>?_⟩;show(List.replicate (L.n*64) (0:Int))[p*64+j]? =_;rw[List.getElem?_replicate,if_pos (by omega)]
 ·intro p q f hp
  change (List.replicate L.n (-1:Int))[p]? =_ at hp
  rw[List.getElem?_replicate]at hp;split at hp
  ·have:=aJ hp;omega
  cases hp
 ·intro f hf;left;show(List.replicate 256 (-1:Int))[f]? =_;rw[List.getElem?_replicate,if_pos hf]
 show((List.replicate 4 (-1:Int)).set L.o (L.n:Int))[L.o]? =_;rw[List.getElem?_set,if_pos rfl,if_pos (by simpa using ho)]
end Go.Ink
namespace Go.Proofs.YtomjgmbccamgiaaGreatDoor
open Go.RowKit Go.Ink Go.Proofs.Tryz
attribute [local irreducible] OpY bW
def fj(L:gQ)(tu:List Bool):List Value:= .pointer (some ⟨L.bp,0,none⟩):: .pointer (some ⟨L.bt,0,none⟩)::(ls tu++[.bool false])
abbrev wn(L:gQ)(tu:List Bool):bJ:=row L.bm (fj L tu) 103
theorem memCells_tu{L:gQ}{tu:List Bool}{j:Nat}{b:Bool}(h:tu[j]? =some b):(fj L tu)[2+j]? =some (.bool b):=by
 have hj:=(au.1 h).1;unfold fj;rw[show 2+j=j+1+1 by omega,List.getElem?_cons_succ,List.getElem?_cons_succ,bE (by rw[jU];exact hj)];exact zL h
theorem rC{L:gQ}{tu:List Bool}(h:tu.length=64):(fj L tu)[66]? =some (.bool false):=by
 unfold fj;rw[List.getElem?_cons_succ,List.getElem?_cons_succ,bG (by rw[jU];omega),jU,h]
 rfl
theorem j9{L:gQ}{tu:List Bool}(h:tu.length=64):(fj L tu).length=67:=by simp[fj,jU,h]
theorem lR{L:gQ}{tu:List Bool}{j:Nat}(hj:j<tu.length)(b:Bool):(fj L tu).set (2+j) (.bool b)=fj L (tu.set j b):=by
 unfold fj;rw[show 2+j=j+1+1 by omega,List.set_cons_succ,List.set_cons_succ,List.set_append_left _ _ (by rw[jU];exact hj),EE]
theorem wo{L:gQ}{tu:List Bool}:((fj L tu).drop 2).take (ls tu).length=ls tu:=by
 unfold fj;simp
theorem uR{L:gQ}{tu:List Bool}(h:tu.length=64):(fj L tu).take 2++List.replicate 64 (Value.bool false)++(fj L tu).drop (2+64)=fj L (List.replicate 64 false):=by
 unfold fj;have:(ls tu).length=64:=by rw[jU,h]
 rw[nS];simp[this]
def BD(L:gQ)(tu:List Bool)(k:MemK):List bJ:=[ff L.bp k.B k.ow k.pr,jc L.bt L.bp L.o L.bf L.bg L.n,frC L.bf L.n k.fr,gdC L.bg L.n k.gd,wn L tu]
abbrev eH(L:gQ)(M:Mem):bJ:=exC [L.bp,L.bt,L.bf,L.bg,L.bm] (BD L M.Ip) Zrf (fH L M)
theorem nX{L:gQ}{M:Mem}{w:World}(h:(eH L M).ok w):∃k,fH L M k∧(ff L.bp k.B k.ow k.pr).ok w∧(jc L.bt L.bp L.o L.bf L.bg L.n).ok w∧(frC L.bf L.n k.fr).ok w∧(wn L M.Ip).ok w:=by
 obtain⟨k,h1,h2⟩:=exC_ok h;exact⟨k,h1,h2 _ (.head _ _),h2 _ (.tail _ (.head _ _)),h2 _ (.tail _ (.tail _ (.head _ _))),h2 _ (.tail _ (.tail _ (.tail _ (.tail _ (.head _ _)))))⟩
theorem qA(bt bp o bf bg n:Nat)(w:World)(h:(jc bt bp o bf bg n).ok w):Ctr prog 72 [.pointer (some ⟨bt,0,none⟩)] w [] (fun v cs=>v= .int .i64 n∧cs=[]):=by
 refine bL func72 rfl ntmps72 rfl (Inv.start w) ?_;refine eK ?_;refine dU (bM Zrf (Zv rfl)) (dL (by assumption) rfl) rfl ?_;refine Z_5 ?_;refine Zra ?_;exact⟨rfl,rfl⟩
theorem Hn(bt bp o bf bg n p:Nat)(w:World)(h:(jc bt bp o bf bg n).ok w):Ctr prog 75 [.pointer (some ⟨bt,0,none⟩),.int .i64 p] w [] (fun v cs=>v= .bool (decide (p<n))∧cs=[]):=by
 refine bL func75 rfl ntmps75 rfl (Inv.start w) ?_;refine ic ?_;refine lA (bP rfl rfl) (bM Zrf (dc rfl)) (dL (by assumption) rfl) rfl ?_;refine Z_7 ?_;refine Zra ?_;rw[aG (show(0:Int)≤p by omega),show decide ((p:Int)<n)=decide (p<n)from decide_eq_decide.2 (by omega)];exact⟨rfl,rfl⟩
def rX(f:Int):Value:=bif f== -1 then .tuple #[.int .i64 0,.bool false]else .tuple #[.int .i64 f,.bool true]
theorem ky(bt bp o bf bg n p:Nat)(fr:List Int)(f:Int)(hp:p<n)(hf:fr[p]? =some f)(w:World)(h:(jc bt bp o bf bg n).ok w)(h2:(frC bf n fr).ok w):
  Ctr prog 45 [.pointer (some ⟨bt,0,none⟩),.int .i64 p] w [] (fun v cs=>v=rX f∧cs=[]):=by
 have hrd:=un h2;refine bL func45 rfl ntmps45 rfl (Inv.start w) ?_;refine eo ?_;refine ZSe (fun w hi=>Hn bt bp o bf bg n p w (bJ.old h hi)) ?_;rw[aG hp];refine Z_5 ?_;refine lA (bS rfl rfl) (bM Zrf (dc rfl)) (dL (by assumption) rfl) rfl ?_;refine ZB ?_;refine Zyn rfl rfl (dk (j:=p) rfl Zrf (dc rfl) (dc rfl) (fun _=>by omega) (fun _=>by omega)) ?_;refine lA (bS rfl rfl) (bM Zrf (dc rfl)) (fe hrd (df hf)) rfl ?_;refine Z_4 ?_;refine ZW ?_ ?_<;>intro hc1
 ·have hc:(f== -1)=true:=hc1;simp only[rX,hc,ac];refine Z_8 ?_;refine fw (cs':=[]) (.inl rfl) Zu rfl rfl rfl ?_;exact⟨rfl,rfl⟩
 have hc:(f== -1)=false:=hc1;simp only[rX,hc,aa];refine Z_7 ?_;refine dU (bM Zrf (Zv rfl)) (dL (by assumption) rfl) rfl ?_;refine ZA ?_;refine Zy (dk (j:=p) rfl Zrf (Zv rfl) (Zv rfl) (fun _=>by omega) (fun _=>by omega)) ?_;refine dU (bM Zrf Zv0) (fe hrd (df hf)) rfl ?_;refine Z_5 ?_;refine fw (cs':=[]) (.inl rfl) Zu rfl rfl rfl ?_;exact⟨rfl,rfl⟩
theorem tmap_ok(bt bp o bf bg n p:Nat)(B ow pr fr:List Int)(hl:fG B ow pr)(ho:o<4)(hn:pr[o]? =some (n:Int))(hlt:(gD ow o 256).length<n)(f0:Nat)(h16:16≤f0)(h256:f0<256)(hf0:ow[f0]? =some (-1))(hp:p<n)(hf:fr[p]? =some (-1))(w:World)
  (hi:Inv w (bK [jc bt bp o bf bg n,frC bf n fr,ff bp B ow pr]) [jc bt bp o bf bg n,frC bf n fr,ff bp B ow pr] w):
  Ctr prog 46 [.pointer (some ⟨bt,0,none⟩),.int .i64 p] w [jc bt bp o bf bg n,frC bf n fr,ff bp B ow pr] (fun v cs=>∃f:Nat,16≤f∧f<256∧ow[f]? =some (-1)∧v= .tuple #[.int .i64 f,.int .i64 0]∧cs=[ff bp (eO B f) (ow.set f o) pr,jc bt bp o bf bg n,frC bf n (fr.set p f)]):=by
 refine bL func46 rfl ntmps46 rfl hi ?_;refine eo ?_;refine ZSe (fun w hi=>Hn bt bp o bf bg n p w (hi.get Zh)) ?_;rw[aG hp];refine Z_3 ?_;refine bY rfl (rfl) ?_;refine Z_7 ?_;refine ZSe (fun w hi=>ky bt bp o bf bg n p fr (-1) hp hf w (hi.get Zh) (hi.get Zh)) ?_;refine gK ?_;refine bY rfl (rfl) ?_;refine Z_3 ?_;refine cj ⟨fun j=>List.elem j [8],[]⟩ Zk ?_;refine ZE 0 ?_;refine ZE 1 ?_;refine ZFe 2 0 ?_;refine ZG 3 ?_;refine ZE 4 ?_;refine ZE 5 ?_;refine ZFe 6 1 ?_;refine ZG 7 ?_;refine cE 8 Zk ?_;refine ZcA ([ff bp B ow pr]) (fun w hi hin=>take_ok bp B ow pr hl o ho n hn (by omega) f0 h16 h256 hf0 w hin) ?_;rintro _ _ ⟨_,⟨f,hf1,hf2,hf3,rfl,rfl⟩,rfl⟩;refine ZE 9 ?_;refine ZE 10 ?_;refine ZE 11 ?_;refine ZE 12 ?_;refine ZE 13 ?_;refine bO Zk ?_;refine Z_8 ?_;refine cB rfl (rfl) ?_;refine Z_7 ?_;refine Zy (cI (j:=p) (sz:=1) (r:=p) rfl Zrf (Zv rfl) (Zv rfl) (fun _=>by omega) (fun _=>by omega) (by omega)) ?_;refine dz (gi Zrf rfl rfl rfl Za (by omega)) ?_;rintro _ _ ⟨rfl,rfl⟩;rw[gC];refine eo ?_;refine fw (cs':=[row _ _ _,row _ _ _,slv _ _ _ _ _ _]) (.inl rfl) Zu rfl rfl rfl ?_;exact⟨f,hf1,hf2,hf3,rfl,rfl⟩
end Go.Proofs.YtomjgmbccamgiaaGreatDoor
namespace Go.Ink
open Go.RowKit
def gB(d:List Int)(a:Nat):Int:=d.getD a 0
theorem DU{d:List Int}{a:Nat}(h:a<d.length):d[a]? =some (gB d a):=by simp[gB,h]
theorem jN{d:List Int}(h:u8s d)(a:Nat):0≤gB d a∧gB d a≤255:=by
 unfold gB;by_cases hl:a<d.length
 ·rw[ax,ak hl];exact h _ (List.getElem_mem hl)
 rw[ax,List.getElem?_eq_none (by omega)];simp
def p8(d:List Int)(a:Nat):Nat→Int
 |0=>0
 |k+1=>p8 d a k*256+gB d (a+(3 - k))
def qO(d:List Int)(a:Nat):Int:=gB d a+256*gB d (a+1)+65536*gB d (a+2)+16777216*gB d (a+3)
theorem Ab(d:List Int)(a:Nat):p8 d a 4=qO d a:=by
 simp[p8,qO];omega
theorem vx{d:List Int}(h:u8s d)(a:Nat):∀k,0≤p8 d a k∧p8 d a k<256^k
 |0=>by simp[p8]
 |k+1=>by
  have h1:=vx h a k;have h2:=jN h (a+(3 - k));simp only[p8,Int.pow_succ];omega
theorem sU{d:List Int}(h:u8s d)(a:Nat):u32 (qO d a):=by
 have h1:=jN h a;have h2:=jN h (a+1);have h3:=jN h (a+2);have h4:=jN h (a+3);unfold qO;exact⟨by omega,by omega⟩
theorem Aa{d:List Int}(h:u8s d)(a:Nat){k:Nat}(hk:k<4):bits .or .u32 (IntKind.u32.wrap (p8 d a k*2^(min (8:Int).toNat IntKind.u32.bits))) (gB d (a+(3 - k)))=p8 d a (k+1):=by
 have h1:=vx h a k;have h2:=jN h (a+(3 - k));simp only[p8];generalize p8 d a k=v at h1;have hv:0≤v∧v<16777216:=by
  obtain rfl|rfl|rfl|rfl:k=0∨k=1∨k=2∨k=3:=by omega
  all_goals (simp at h1;omega)
 have e1:(2:Int)^(min (8:Int).toNat IntKind.u32.bits)=256:=rfl;rw[e1,u32_wrap_id _ (by omega) (by omega)];exact bits_join .u32 32 (by decide) wraps_u32 8 (v*256) _ (by omega) (by omega) (by omega) (by omega) (by omega) (by omega)
def qR(v:Int)(k:Nat):Int:=v/256^k%256
theorem nA(v:Int)(k:Nat):0≤qR v k∧qR v k≤255:=by unfold qR;omega
theorem vw(v:Int){k:Nat}(hk:k<4):IntKind.u8.wrap (v.fdiv (2^(min (IntKind.u32.wrap (8*(k:Int))).toNat IntKind.u32.bits)))=qR v k:=by
 have e:∀n:Nat,v.fdiv (2^n)=v/2^n:=fun n=>Int.fdiv_eq_ediv_of_nonneg v (by exact Int.le_of_lt (Int.pow_pos (by decide)))
 rw[e,IntKind.wrap_u8];unfold qR;obtain rfl|rfl|rfl|rfl:k=0∨k=1∨k=2∨k=3:=by omega
 all_goals rfl
def Mem.I8(M:Mem)(a:Nat)(v:Int):Nat→Mem
 |0=>M
 |k+1=>(Mem.I8 M a v k).put (a+k) (qR v k)
def Mem.IU(M:Mem)(a:Nat)(v:Int):Mem:=M.I8 a v 4
def Mem.fill(M:Mem)(a:Nat)(l:List Int):Nat→Mem
 |0=>M
 |k+1=>(Mem.fill M a l k).put (a+k) (gB l k)
end Go.Ink
namespace Go.Proofs.YtomjgmbccamgiaaGreatDoor
open Go.RowKit Go.Ink Go.Proofs.Tryz
attribute [local irreducible] OpY bW
theorem mA(L:gQ)(M:Mem)(w:World)(h:(eH L M).ok w):Ctr prog 38 [.pointer (some ⟨L.bm,0,none⟩)] w [] (fun v cs=>v= .int .u32 (L.n*64:Nat)∧cs=[]):=by
 obtain⟨k,hr,h1,h2,h3,h4⟩:=nX h;have n64:=hr.n64;refine bL func38 rfl ntmps38 rfl (Inv.start w) ?_;refine eK ?_;refine dU (bM Zrf (Zv rfl)) (dL (by assumption) rfl) rfl ?_;refine ZSe (fun w hi=>qA L.bt L.bp L.o L.bf L.bg L.n w (bJ.old h2 hi)) ?_;refine Zy (cu rfl rfl Zv0 rfl) ?_;refine Zy (i3 (Zv rfl) (Zv rfl) (show IntKind.u32.wrap ((IntKind.u32.wrap (L.n:Int))*64)=((L.n*64:Nat):Int) by rw[u32_wrap_id (L.n:Int) (by omega) (by omega),u32_wrap_id _ (by omega) (by omega)];omega)) ?_;refine Z_4 ?_;refine Zra ?_;exact⟨rfl,rfl⟩
theorem nM(a:Nat)(ha:a≤4294967295)(w:World):Ctr prog 44 [.int .u32 a] w [] (fun v cs=>v= .tuple #[.int .i64 (a/64:Nat),.int .i64 (a%64:Nat)]∧cs=[]):=by
 refine bL func44 rfl ntmps44 rfl (Inv.start w) ?_;refine Z_9 ?_;refine Zy (jA (Zv rfl) (Zv rfl) (by omega) (show _=((a/64:Nat):Int)from by rw[bn (by omega),u32_wrap_id _ (by omega) (by omega)];omega)) ?_;refine Zy (cu rfl rfl Zv0 Zl) ?_;refine ZA ?_;refine Zy (gt (Zv rfl) (Zv rfl) (by omega) (show _=((a%64:Nat):Int)from by rw[aD (by omega)];omega)) ?_;refine Zy (cu rfl rfl Zv0 Zl) ?_;refine Z_5 ?_;refine fw (cs':=[]) (.inl rfl) Zu rfl rfl rfl ?_;exact⟨rfl,rfl⟩
theorem tx(L:gQ)(M:Mem)(a n:Nat)(ha:a≤4294967295)(hn:n≤1000)(w:World)(h:(eH L M).ok w):Ctr prog 43 [.pointer (some ⟨L.bm,0,none⟩),.int .u32 a,.int .i64 n] w [] (fun v cs=>v= .bool (decide (a+n≤L.n*64))∧cs=[]):=by
 obtain⟨k,hr,_⟩:=nX h;have n64:=hr.n64;refine bL func43 rfl ntmps43 rfl (Inv.start w) ?_;refine Z_8 ?_;refine Zy (cu rfl rfl (Zv rfl) (by first|exact IntWalk.u64_in _ ⟨by omega,by omega⟩|exact rfl)) ?_;refine ZA ?_;refine Zy (cu rfl rfl (Zv rfl) (by first|exact IntWalk.u64_in _ ⟨by omega,by omega⟩|exact rfl)) ?_;refine Zy (cF (Zv rfl) (Zv rfl) (IntWalk.u64_in _ ⟨by omega,by omega⟩)) ?_;refine ZA ?_;refine ZSe (fun w hi=>mA L M w (bJ.old h hi)) ?_;refine Zy (cu rfl rfl (Zv rfl) (by first|exact IntWalk.u64_in _ ⟨by omega,by omega⟩|exact rfl)) ?_;refine Z_5 ?_;refine Zra ?_;rw[show decide ((a:Int)+n≤((L.n*64:Nat):Int))=decide (a+n≤L.n*64)from decide_eq_decide.2 (by omega)];exact⟨rfl,rfl⟩
theorem rW(f:Nat):rX (f:Int)= .tuple #[.int .i64 f,.bool true]:=by
 unfold rX;rw[show((f:Int)== -1)=false by rw[beq_eq_false_iff_ne];omega]
 rfl
theorem ux(L:gQ)(M:Mem)(a:Nat)(ha:a<L.n*64)(w:World)(h:(eH L M).ok w):Ctr prog 39 [.pointer (some ⟨L.bm,0,none⟩),.int .u32 a] w [] (fun v cs=>v= .int .u8 (gB M.data a)∧cs=[]):=by
 obtain⟨k,hr,h1,h2,h3,h4⟩:=nX h;have n64:=hr.n64;have hp:a/64<L.n:=by omega
 have hj:a%64<64:=by omega
 have hdl:=hr.dl;have hda:M.data[a/64*64+a%64]? =some (gB M.data a):=by rw[show a/64*64+a%64=a by omega];exact DU (by omega)
 rcases hr.Iy (a/64) hp with⟨f1,f2⟩|⟨f,f1,f2,f3,f4,f5⟩
 ·have hz:gB M.data a=0:=by have:=f2 (a%64) hj;rw[hda]at this;exact aJ this
  rw[hz];refine bL func39 rfl ntmps39 rfl (Inv.start w) ?_;refine Z_8 ?_;refine ZSe (fun w hi=>nM a (by omega) w) ?_;refine gK ?_;refine dU (bM Zrf (Zv rfl)) (dL (by assumption) rfl) rfl ?_;refine ZA ?_;refine ZSe (fun w hi=>ky L.bt L.bp L.o L.bf L.bg L.n (a/64) k.fr (-1) hp f1 w (bJ.old h2 hi) (bJ.old h3 hi)) ?_;refine ic ?_;refine cB rfl (rfl) ?_;refine Z_7 ?_;refine Zra ?_;exact⟨rfl,rfl⟩
 have hb:k.B[f*64+a%64]? =some (gB M.data a):=by rw[f5 _ hj,hda]
 refine bL func39 rfl ntmps39 rfl (Inv.start w) ?_;refine Z_8 ?_;refine ZSe (fun w hi=>nM a (by omega) w) ?_;refine gK ?_;refine dU (bM Zrf (Zv rfl)) (dL (by assumption) rfl) rfl ?_;refine ZA ?_;refine ZSe (fun w hi=>ky L.bt L.bp L.o L.bf L.bg L.n (a/64) k.fr f hp f1 w (bJ.old h2 hi) (bJ.old h3 hi)) ?_;rw[rW];refine ic ?_;refine bY rfl (rfl) ?_;refine Z_7 ?_;refine dU (bM Zrf (Zv rfl)) (dL (by assumption) rfl) rfl ?_;refine Z_2 ?_;refine ZSe (fun w hi=>FZ L.bp k.B k.ow k.pr hr.pl f (a%64) L.o _ f2 f3 f4 (by omega) hj hb w (bJ.old h1 hi)) ?_;refine ic ?_;refine Zra ?_;exact⟨rfl,rfl⟩
theorem rput_in(L:gQ)(M:Mem)(a:Nat)(ha:a<L.n*64)(b:Int)(hb:0≤b∧b≤255)(w:World)(k:MemK)(hr:fH L M k)(hi:Inv w (bK (BD L M.Ip k)) (BD L M.Ip k) w):
  Ctr prog 19 [.pointer (some ⟨L.bm,0,none⟩),.int .u32 a,.int .u8 b] w (BD L M.Ip k) (fun v cs=>v= .bool true∧∃k',fH L (M.put a b) k'∧cs=BD L (M.put a b).Ip k'):=by
 have n64:=hr.n64;have o4:=hr.o4;have hp:a/64<L.n:=by omega
 have hj:a%64<64:=by omega
 have hdl:=hr.dl;have htl:=hr.tl;have ea:a/64*64+a%64=a:=by omega
 obtain⟨hb0,hb1⟩:=hb;have his:∀w0 S w,Inv w0 S (BD L M.Ip k) w→(eH L M).ok w:=fun w0 S w hi=>(hi.I3 (rest:=[]) (bs:=[L.bp,L.bt,L.bf,L.bg,L.bm]) (F:=BD L M.Ip) (hb:=fun _=>rfl) (p:=fH L M) k hr).ok _ (List.mem_cons_self ..)
 rcases hr.Iy (a/64) hp with⟨f1,f2⟩|⟨f,f1,f2,f3,f4,f5⟩
 ·by_cases hb0':b=0
  ·subst hb0';have hfin:=hr.put0 hj hp f1;rw[ea]at hfin;refine bL func19 rfl ntmps19 rfl hi ?_;unfold BD at his⊢;refine eK ?_;refine ZSe (fun w hi=>tx L M a 1 (by omega) (by omega) w (his _ _ w hi)) ?_;rw[aG (show a+1≤L.n*64 by omega)];refine Z_3 ?_;refine bY rfl (rfl) ?_;refine Z_5 ?_;refine ZSe (fun w hi=>nM a (by omega) w) ?_;refine ic ?_;refine ZSe (fun w hi=>ky L.bt L.bp L.o L.bf L.bg L.n (a/64) k.fr (-1) hp f1 w (hi.get Zh) (hi.get Zh)) ?_;refine xk ?_;refine bY rfl (rfl) ?_;refine Z_8 ?_;refine Zy (dy (j:=(a/64)) (sz:=1) (r:=2+a/64) rfl Zrf (Zv rfl) (Zv rfl) (fun _=>by omega) (fun _=>by omega) (by omega)) ?_;refine dz (dH Zrf rfl rfl rfl Za (by rw[j9 htl];omega)) ?_;rintro _ _ ⟨rfl,rfl⟩;rw[lR (by omega)];refine ic ?_;refine dr (bS rfl rfl) rfl rfl ?_;refine Zy (EZ (q:=false) (Zv rfl) ⟨_,rfl,fun _ e=>by simp at e⟩) ?_;refine Z_4 ?_;refine Zrb ([row _ _ _,row _ _ _,slv _ _ _ _ _ _,slv _ _ _ _ _ _,row _ _ _]) ?_;exact⟨rfl,k,hfin,rfl⟩
  obtain⟨f0,g1,g2,g3⟩:=hr.free;refine bL func19 rfl ntmps19 rfl hi ?_;unfold BD at his⊢;refine eK ?_;refine ZSe (fun w hi=>tx L M a 1 (by omega) (by omega) w (his _ _ w hi)) ?_;rw[aG (show a+1≤L.n*64 by omega)];refine Z_3 ?_;refine bY rfl (rfl) ?_;refine Z_5 ?_;refine ZSe (fun w hi=>nM a (by omega) w) ?_;refine ic ?_;refine ZSe (fun w hi=>ky L.bt L.bp L.o L.bf L.bg L.n (a/64) k.fr (-1) hp f1 w (hi.get Zh) (hi.get Zh)) ?_;refine xk ?_;refine cB rfl ((by rw[show(b !=0)=true by simp[hb0']];rfl)) ?_;refine eK ?_;refine ZFa 66 ?_;refine dU (bM Zrf Zv0) (bR (o:=66) Zh (rC htl)) rfl ?_;refine Z_2 ?_;refine bY rfl (rfl) ?_;refine eK ?_;refine ZcL ([jc L.bt L.bp L.o L.bf L.bg L.n,frC L.bf L.n k.fr,ff L.bp k.B k.ow k.pr]) (fun w hi hin=>tmap_ok L.bt L.bp L.o L.bf L.bg L.n (a/64) k.B k.ow k.pr k.fr hr.pl o4 hr.prom (hr.heldLt f1) f0 g1 g2 g3 hp f1 w hin) ?_;rintro _ _ ⟨_,⟨f,m1,m2,m3,rfl,rfl⟩,rfl⟩;have hmap:=hr.map hp f1 m1 m2 m3;have hfin:=hmap.putF (j:=a%64) (b:=b) (f:=f) hj ⟨hb0,hb1⟩ (show(k.fr.set (a/64) (f:Int))[a/64]? =_ by rw[List.getElem?_set,if_pos rfl,if_pos (by rw[hr.fr];exact hp)]);rw[ea]at hfin;have hpl':=hmap.pl;refine jW ?_;refine bY rfl (rfl) ?_;refine gK ?_;refine Zy (dy (j:=(a/64)) (sz:=1) (r:=2+a/64) rfl Zrf (Zv rfl) (Zv rfl) (fun _=>by omega) (fun _=>by omega) (by omega)) ?_;refine dz (dH Zrf rfl rfl rfl Za (by rw[j9 htl];omega)) ?_;rintro _ _ ⟨rfl,rfl⟩;rw[lR (by omega)];refine ic ?_;refine ku (bS rfl rfl) rfl (dR ([ff L.bp (eO k.B f) (k.ow.set f L.o) k.pr]) rfl (fun _ _=>rfl) Zi (fun w hi hin=>CG L.bp (eO k.B f) (k.ow.set f L.o) k.pr hpl' f (a%64) L.o b m1 m2 (show(k.ow.set f (L.o:Int))[f]? =some (L.o:Int) by rw[List.getElem?_set,if_pos rfl,if_pos (by rw[hr.pl.ow];exact m2)]) (by omega) hj w hin)) rfl ?_;rintro _ _ ⟨_,⟨rfl,rfl⟩,rfl⟩;refine Z_5 ?_;refine bQ [ff L.bp ((eO k.B f).set (f*64+a%64) b) (k.ow.set f L.o) k.pr,jc L.bt L.bp L.o L.bf L.bg L.n,frC L.bf L.n (k.fr.set (a/64) f),gdC L.bg L.n k.gd,wn L (M.Ip.set (a/64) true)] Zj ?_;refine Zrb ([row _ _ _,row _ _ _,slv _ _ _ _ _ _,slv _ _ _ _ _ _,row _ _ _]) ?_;exact⟨rfl,_,hfin,rfl⟩
 have hfin:=hr.putF (j:=a%64) (b:=b) hj ⟨hb0,hb1⟩ f1;rw[ea]at hfin;refine bL func19 rfl ntmps19 rfl hi ?_;unfold BD at his⊢;refine eK ?_;refine ZSe (fun w hi=>tx L M a 1 (by omega) (by omega) w (his _ _ w hi)) ?_;rw[aG (show a+1≤L.n*64 by omega)];refine Z_3 ?_;refine bY rfl (rfl) ?_;refine Z_5 ?_;refine ZSe (fun w hi=>nM a (by omega) w) ?_;refine ic ?_;refine ZSe (fun w hi=>ky L.bt L.bp L.o L.bf L.bg L.n (a/64) k.fr f hp f1 w (hi.get Zh) (hi.get Zh)) ?_;rw[rW];refine xk ?_;refine bY rfl (rfl) ?_;refine Z_8 ?_;refine Zy (dy (j:=(a/64)) (sz:=1) (r:=2+a/64) rfl Zrf (Zv rfl) (Zv rfl) (fun _=>by omega) (fun _=>by omega) (by omega)) ?_;refine dz (dH Zrf rfl rfl rfl Za (by rw[j9 htl];omega)) ?_;rintro _ _ ⟨rfl,rfl⟩;rw[lR (by omega)];refine ic ?_;refine ku (bS rfl rfl) rfl (dR ([ff L.bp k.B k.ow k.pr]) rfl (fun _ _=>rfl) Zi (fun w hi hin=>CG L.bp k.B k.ow k.pr hr.pl f (a%64) L.o b f2 f3 f4 (by omega) hj w hin)) rfl ?_;rintro _ _ ⟨_,⟨rfl,rfl⟩,rfl⟩;refine Z_5 ?_;refine bQ [ff L.bp (k.B.set (f*64+a%64) b) k.ow k.pr,jc L.bt L.bp L.o L.bf L.bg L.n,frC L.bf L.n k.fr,gdC L.bg L.n k.gd,wn L (M.Ip.set (a/64) true)] Zj ?_;refine Zrb ([row _ _ _,row _ _ _,slv _ _ _ _ _ _,slv _ _ _ _ _ _,row _ _ _]) ?_;exact⟨rfl,_,hfin,rfl⟩
end Go.Proofs.YtomjgmbccamgiaaGreatDoor
namespace Go.Ink
open Go.RowKit
def cpy(d:List Int)(o n k:Nat):List Int:=(List.range k).map (fun j=>gB d (o+j))++List.replicate (n - k) 0
theorem zH(d:List Int)(o n:Nat):cpy d o n 0=List.replicate n 0:=by simp[cpy]
theorem Et(d:List Int)(o:Nat){n k:Nat}(h:k<n):(cpy d o n k).set k (gB d (o+k))=cpy d o n (k+1):=by
 unfold cpy;rw[List.set_append_right _ _ (by simp),List.length_map,List.length_range,Nat.sub_self,show n - k=(n - (k+1))+1 by omega,List.replicate_succ,List.set_cons_zero,List.range_succ,List.map_append,aq]
 rfl
theorem Eu{d:List Int}{o n:Nat}(h:o+n≤d.length):cpy d o n n=(d.drop o).take n:=by
 unfold cpy;rw[Nat.sub_self,List.replicate_zero,ay];apply List.ext_getElem?;intro j;rw[bj,List.getElem?_take,List.getElem?_drop];by_cases hj:j<n
 ·rw[List.getElem?_range hj,if_pos hj,DU (by omega)]
  rfl
 rw[List.getElem?_eq_none (by simp;omega),if_neg hj]
 rfl
def iB(tu:List Bool)(k:Nat):List Int:=((List.range k).filter (fun f=>tu.getD f false)).map (fun f:Nat=>(f:Int))
theorem s7(tu:List Bool)(k:Nat):iB tu (k+1)=iB tu k++(bif tu.getD k false then[(k:Int)]else[]):=by
 unfold iB;rw[List.range_succ,List.filter_append,List.map_append];congr 1;cases h:tu.getD k false<;>simp only[List.filter_cons,h,List.filter_nil,if_true,List.map_cons,List.map_nil,ac,aa,Bool.false_eq_true,if_false]
theorem Fi(tu:List Bool)(k:Nat):(iB tu k).length≤k:=by
 unfold iB;rw[List.length_map];exact aY (List.length_filter_le _ _) (by simp)
theorem Bu{l:List Bool}{j:Nat}(h:j<l.length):(ls l)[j]? =some (.bool (l.getD j false)):=by
 apply zL;simp[h]
theorem wQ(M:Mem)(l:List Int):∀k,k≤l.length→l.length≤M.data.length→(M.fill 0 l k).data=l.take k++M.data.drop k
 |0,_,_=>by simp[Mem.fill]
 |k+1,h,h2=>by
  have ih:=wQ M l k (by omega) h2;rw[Mem.fill];show(M.fill 0 l k).data.set (0+k) (gB l k)=_;rw[ih,bo,List.set_append_right _ _ (by rw[az];omega),az,show k - min k l.length=0 by omega];have e1:M.data.drop k=M.data[k]'(by omega)::M.data.drop (k+1):=List.drop_eq_getElem_cons (by omega);have e2:l.take (k+1)=l.take k++[gB l k]:=by
   rw[List.take_add_one,DU (by omega)]
   rfl
  rw[e1,List.set_cons_zero,e2,aq]
  rfl
def Mem.init(n:Nat)(b:List Int):Mem:=⟨b++List.replicate (n*64 - b.length) 0,List.replicate 64 false⟩
theorem Mem.init_eq{n:Nat}{b:List Int}(h:b.length≤n*64):((Mem.new n).fill 0 b b.length).calm=Mem.init n b:=by
 unfold Mem.calm Mem.init;rw[wQ _ _ _ (aQ _) (by simp[Mem.new];exact h),bA];simp[Mem.new]
end Go.Ink
namespace Go.Proofs.YtomjgmbccamgiaaGreatDoor
open Go.RowKit Go.Ink Go.Proofs.Tryz
attribute [local irreducible] OpY bW
theorem oW(L:gQ)(M:Mem)(a:Nat)(ha:a<L.n*64)(b:Int)(hb:0≤b∧b≤255)(w:World)(hi:Inv w (bK [eH L M]) [eH L M] w):
  Ctr prog 19 [.pointer (some ⟨L.bm,0,none⟩),.int .u32 a,.int .u8 b] w [eH L M] (fun v cs=>v= .bool true∧cs=[eH L (M.put a b)]):=
 ctr_E hi fun k hr hi'=>rput_in L M a ha b hb w k hr hi'
theorem lr{L:gQ}{M:Mem}{w:World}(h:(eH L M).ok w):1≤L.n∧L.n≤64∧M.data.length=L.n*64∧u8s M.data∧M.Ip.length=64:=by
 obtain⟨k,hr,_⟩:=nX h;exact⟨hr.n1,hr.n64,hr.dl,hr.db,hr.tl⟩
theorem FP(L:gQ)(M:Mem)(a:Nat)(ha:a<L.n*64)(w:World)(h:(eH L M).ok w):Ctr prog 249 [.pointer (some ⟨L.bm,0,none⟩),.int .u32 a] w [] (fun v cs=>v= .tuple #[.int .u8 (gB M.data a),.bool true]∧cs=[]):=by
 obtain⟨n1,n64,_⟩:=lr h;refine bL func249 rfl ntmps249 rfl (Inv.start w) ?_;refine eo ?_;refine ZSe (fun w hi=>tx L M a 1 (by omega) (by omega) w (bJ.old h hi)) ?_;rw[aG (show a+1≤L.n*64 by omega)];refine Z_3 ?_;refine bY rfl (rfl) ?_;refine Z_6 ?_;refine ZSe (fun w hi=>ux L M a ha w (bJ.old h hi)) ?_;refine Z_5 ?_;refine fw (cs':=[]) (.inl rfl) Zu rfl rfl rfl ?_;exact⟨rfl,rfl⟩
def xo(L:gQ)(M:Mem)(a:Nat):Value:=bif decide (a+4≤L.n*64)then .tuple #[.int .u32 (qO M.data a),.bool true]else .tuple #[.int .u32 0,.bool false]
theorem uq(L:gQ)(M:Mem)(a:Nat)(ha:a≤4294967295)(w:World)(h:(eH L M).ok w):Ctr prog 219 [.pointer (some ⟨L.bm,0,none⟩),.int .u32 a] w [] (fun v cs=>v=xo L M a∧cs=[]):=by
 obtain⟨n1,n64,hdl,hdb,htl⟩:=lr h;refine bL func219 rfl ntmps219 rfl (Inv.start w) ?_;refine eo ?_;refine ZSe (fun w hi=>tx L M a 4 ha (by omega) w (bJ.old h hi)) ?_;refine Z_3 ?_;refine ZW ?_ ?_<;>intro hc1
 ·have hc:decide (a+4≤L.n*64)=false:=by simpa using hc1
  refine Z_8 ?_;refine fw (cs':=[]) (.inl rfl) Zu rfl rfl rfl ?_;unfold xo;rw[hc];exact⟨rfl,rfl⟩
 have hc:decide (a+4≤L.n*64)=true:=by simpa using hc1
 have hle:a+4≤L.n*64:=of_decide_eq_true hc;refine ic ?_;refine cJ (fun i:Nat=>[(0,.pointer (some ⟨L.bm,0,none⟩)),(1,.int .u32 a),(6,.int .u32 (p8 M.data a i)),(7,.int .u32 (4 - (i:Int)))]) (fun _=>[]) (fun i=>i≤4) (fun i=>4 - i) (0) ?_ ?_ ?_ ?_
 ·exact aw _
 ·exact Zwk
 ·exact Zu
 rintro i hik;refine Z_7 ?_;refine ZW ?_ ?_<;>intro hc5
 ·simp only[ap]at hc5;have hi4:i<4:=by omega
  have ha3:a+(3 - i)<L.n*64:=by omega
  refine Z_6 ?_;refine Zy (ug (Zv rfl) (Zv rfl) (by omega) rfl) ?_;refine Z_3 ?_;refine Zy (cF (Zv rfl) (Zv rfl) (u32_wrap_id _ (by omega) (by omega))) ?_;refine Zy (eP (Zv rfl) (Zv rfl) (show IntKind.u32.wrap ((a:Int)+(4 - (i:Int)) - 1)=((a+(3 - i):Nat):Int) by rw[u32_wrap_id _ (by omega) (by omega)];omega)) ?_;refine ZSe (fun w hi=>ux L M (a+(3 - i)) ha3 w (bJ.old h hi)) ?_;have hg:=jN hdb (a+(3 - i));refine Zy (cu rfl rfl (Zv rfl) (by first|exact IntWalk.u32_in _ ⟨by omega,by omega⟩|exact rfl)) ?_;refine Zy (zW Zv0 Zv0 (Aa hdb a hi4)) ?_;refine Z_6 ?_;refine Zy (eP (Zv rfl) (Zv rfl) (u32_wrap_id _ (by omega) (by omega))) ?_;refine Z_2 ?_;refine eh (i+1) ?_ ?_ ?_
  ·exact⟨by omega,by omega⟩
  ·exact Zwk
  exact Zu
 simp only[aj]at hc5;obtain rfl:i=4:=by omega
 refine jW ?_;refine fw (cs':=[]) (.inl rfl) Zu rfl rfl rfl ?_;unfold xo;rw[hc,Ab];exact⟨rfl,rfl⟩
theorem m7(L:gQ)(M:Mem)(a:Nat)(v:Int)(ha:a+4≤L.n*64)(hv:u32 v)(w:World)(hi:Inv w (bK [eH L M]) [eH L M] w):
  Ctr prog 184 [.pointer (some ⟨L.bm,0,none⟩),.int .u32 a,.int .u32 v] w [eH L M] (fun v' cs=>v'= .bool true∧cs=[eH L (M.IU a v)]):=by
 obtain⟨n1,n64,hdl,hdb,htl⟩:=lr (hi.ok _ (List.mem_cons_self ..));refine bL func184 rfl ntmps184 rfl hi ?_;refine eK ?_;refine ZSe (fun w hi=>tx L M a 4 (by omega) (by omega) w (hi.get Zh)) ?_;rw[aG ha];refine Z_3 ?_;refine bY rfl (rfl) ?_;refine ic ?_;refine cJ (fun k:Nat=>[(0,.pointer (some ⟨L.bm,0,none⟩)),(1,.int .u32 a),(2,.int .u32 v),(7,.bool true),(13,.int .u32 (k:Int))]) (fun k=>[eH L (M.I8 a v k)]) (fun k=>k≤4) (fun k=>4 - k) (0) ?_ ?_ ?_ ?_
 ·exact aw _
 ·exact Zwk
 ·exact Zu
 rintro k hk;refine Z_6 ?_;refine ZW ?_ ?_<;>intro hc5
 ·simp only[ap]at hc5;have hk4:k<4:=by omega
  refine ic ?_;refine Zy (cF (Zv rfl) (Zv rfl) (show IntKind.u32.wrap ((a:Int)+(k:Int))=((a+k:Nat):Int) by rw[u32_wrap_id _ (by omega) (by omega)];omega)) ?_;refine Z_2 ?_;refine Zy (i3 Zv0 Zv0 rfl) ?_;refine Zy (jY (Zv rfl) (Zv rfl) (by rw[aE];omega) rfl) ?_;refine Zy (cu rfl rfl Zv0 (vw v hk4)) ?_;refine ZcM ([eH L (M.I8 a v k)]) (fun w hi hin=>oW L (M.I8 a v k) (a+k) (by omega) (qR v k) (nA v k) w hin) ?_;refine Z_8 ?_;refine Zy (cF (Zv rfl) (Zv rfl) (u32_wrap_id _ (by omega) (by omega))) ?_;refine Z_2 ?_;refine eh (k+1) ?_ ?_ ?_
  ·exact⟨by omega,by omega⟩
  ·exact Zwk
  exact Zu
 simp only[aj]at hc5;obtain rfl:k=4:=by omega
 refine gK ?_;refine Zrb ([exC _ _ _ _]) ?_;exact⟨rfl,rfl⟩
theorem uw(L:gQ)(M:Mem)(p:Nat)(hp:p<L.n)(w:World)(h:(eH L M).ok w):Ctr prog 90 [.pointer (some ⟨L.bm,0,none⟩),.int .i64 p] w [] (fun v cs=>∃b,v= .tuple #[.slice (some ⟨b,0,none⟩) 64 64,.bool true]∧cs=[sl .u8 5 (some ⟨b,0,none⟩) 64 64 ((M.data.drop (p*64)).take 64)]):=by
 obtain⟨n1,n64,hdl,hdb,htl⟩:=lr h;obtain⟨k0,hr0,h1,h2,h3,h4⟩:=nX h;refine bL func90 rfl ntmps90 rfl (Inv.start w) ?_;refine eo ?_;rw[aF (show¬(p:Int)<0 by omega)];refine Z_5 ?_;refine lA (bS rfl rfl) (bM Zrf (dc rfl)) (dL (by assumption) rfl) rfl ?_;refine ku (bS rfl rfl) rfl (eG rfl (fun _ _=>rfl) (fun w hi=>qA L.bt L.bp L.o L.bf L.bg L.n w (bJ.old h2 hi))) rfl ?_;rintro _ _ ⟨_,⟨rfl,rfl⟩,rfl⟩;refine Z_4 ?_;refine bY rfl ((by rw[aF (show¬(L.n:Int)≤p by omega)];rfl)) ?_;refine Z_4 ?_;refine dM (jr (bytes:=1) (n:=64) rfl rfl rfl rfl rfl rfl rfl (by omega) (by simp only[maxLen];omega)) rfl ?_;rintro _ _ ⟨b19,rfl,rfl⟩;rw[kW,←zH M.data (p*64) 64];refine gK ?_;refine cJ (fun k:Nat=>[(0,.pointer (some ⟨L.bm,0,none⟩)),(1,.int .i64 p),(6,.slice (some ⟨b19,0,none⟩) 64 64),(21,.int .i64 64),(22,.int .i64 (k:Int))]) (fun k=>[sl .u8 5 (some ⟨b19,0,none⟩) 64 64 (cpy M.data (p*64) 64 k)]) (fun k=>k≤64) (fun k=>64 - k) (0) ?_ ?_ ?_ ?_
 ·exact aw _
 ·exact Zwk
 ·exact Zu
 rintro k hk;refine Z_6 ?_;refine ZW ?_ ?_<;>intro hc5
 ·simp only[ap]at hc5;have hpk:p*64+k<L.n*64:=by omega
  refine qp ?_;refine Zy (i3 Zv0 Zv0 Zl) ?_;refine ZA ?_;refine Zy (cF Zv0 Zv0 Zl) ?_;refine Zy (cu rfl rfl (Zv rfl) (show IntKind.u32.wrap ((p:Int)*64+(k:Int))=((p*64+k:Nat):Int) by rw[u32_wrap_id _ (by omega) (by omega)];omega)) ?_;refine ZSe (fun w hi=>ux L M (p*64+k) hpk w (bJ.old h hi)) ?_;refine Zy (cI (j:=k) (sz:=1) (r:=k) rfl Zrf (Zv rfl) (Zv rfl) (fun _=>by omega) (fun _=>by omega) (by omega)) ?_;refine dz (gi Zrf rfl rfl rfl Za (by omega)) ?_;rintro _ _ ⟨rfl,rfl⟩;rw[gC,Et _ _ (by omega)];refine Z_4 ?_;refine Zy (cF Zv0 Zv0 Zl) ?_;refine Z_2 ?_;refine eh (k+1) ?_ ?_ ?_
  ·exact⟨by omega,by omega⟩
  ·exact Zwk
  exact Zu
 simp only[aj]at hc5;obtain rfl:k=64:=by omega
 rw[Eu (by omega)];refine jW ?_;refine fw (cs':=[slv _ _ _ _ _ _]) (.inl rfl) Zu rfl rfl rfl ?_;exact⟨b19,rfl,rfl⟩
theorem xF(L:gQ)(M:Mem)(p:Nat)(hp:p<L.n)(A:Option Addr)(c:Nat)(l:List Int)(hl:l.length=64)(hb:u8s l)(w:World)(hi:Inv w (bK [eH L M]) [eH L M] w)(hrd:∀w',dQ (bK [eH L M]) w w'→Rd w' .u8 A 64 c l):
  Ctr prog 253 [.pointer (some ⟨L.bm,0,none⟩),.int .i64 p,.slice A 64 c] w [eH L M] (fun v' cs=>v'= .bool true∧cs=[eH L (M.fill (p*64) l 64)]):=by
 obtain⟨n1,n64,hdl,hdb,htl⟩:=lr (hi.ok _ (List.mem_cons_self ..));have hrw:=hrd w (dQ.refl _ _);obtain⟨ad,rfl⟩:=hrw.some_ (by omega);have hpg:∀w0 S cs w,Inv w0 S cs w→Has cs (eH L M)→Ctr prog 72 [.pointer (some ⟨L.bt,0,none⟩)] w [] (fun v cs=>v= .int .i64 L.n∧cs=[]):=fun w0 S cs w hi hc=>by
  obtain⟨k0,hr0,h1,h2,h3,h4⟩:=nX (hi.get hc);exact qA L.bt L.bp L.o L.bf L.bg L.n w h2
 have hcell:∀w,Inv w (bK [eH L M]) [eH L M] w→True:=fun _ _=>trivial
 refine bL func253 rfl ntmps253 rfl hi ?_;refine eK ?_;rw[aF (show¬(p:Int)<0 by omega)];refine Z_5 ?_;refine lA (bS rfl rfl) (bM Zrf (dc rfl)) (fun w hi=>by obtain⟨k0,hr0,h1,h2,h3,h4⟩:=nX (hi.get (show Has _ (eH L M)from Zh));exact dL (cs:=[]) h4 (show(fj L M.Ip)[1]? =some (.pointer (some ⟨L.bt,0,none⟩))from rfl) w (Inv.start w)) rfl ?_;refine ku (bS rfl rfl) rfl (eG rfl (fun _ _=>rfl) (fun w hi=>hpg _ _ _ w hi Zh)) rfl ?_;rintro _ _ ⟨_,⟨rfl,rfl⟩,rfl⟩;refine Z_9 ?_;refine bY rfl ((by rw[aF (show¬(L.n:Int)≤p by omega)];rfl)) ?_;refine p5 ?_;refine cJ (fun k:Nat=>[(0,.pointer (some ⟨L.bm,0,none⟩)),(1,.int .i64 p),(7,.bool true),(26,.slice (some ad) 64 c),(27,.int .i64 64),(28,.int .i64 (k:Int))]) (fun k=>[eH L (M.fill (p*64) l k)]) (fun k=>k≤64) (fun k=>64 - k) (0) ?_ ?_ ?_ ?_
 ·exact aw _
 ·exact Zwk
 ·exact Zu
 rintro k hk;refine Z_6 ?_;refine ZW ?_ ?_<;>intro hc5
 ·simp only[ap]at hc5;have hkl:k<l.length:=by omega
  have hbk:=jN hb k;refine Z_7 ?_;refine Zy (dk (j:=k) rfl Zrf (Zv rfl) (Zv rfl) (fun _=>by omega) (fun _=>by omega)) ?_;refine dU (bM Zrf Zv0) (uD hrd (df (DU hkl))) rfl ?_;refine Z_7 ?_;refine Zy (i3 Zv0 Zv0 Zl) ?_;refine ZA ?_;refine Zy (cF Zv0 Zv0 Zl) ?_;refine Zy (cu rfl rfl (Zv rfl) (show IntKind.u32.wrap ((p:Int)*64+(k:Int))=((p*64+k:Nat):Int) by rw[u32_wrap_id _ (by omega) (by omega)];omega)) ?_;refine ZA ?_;refine ZcM ([eH L (M.fill (p*64) l k)]) (fun w hi hin=>oW L (M.fill (p*64) l k) (p*64+k) (by omega) (gB l k) hbk w hin) ?_;refine Z_8 ?_;refine Zy (cF Zv0 Zv0 Zl) ?_;refine Z_2 ?_;refine eh (k+1) ?_ ?_ ?_
  ·exact⟨by omega,by omega⟩
  ·exact Zwk
  exact Zu
 simp only[aj]at hc5;obtain rfl:k=64:=by omega
 refine gK ?_;refine Zrb ([exC _ _ _ _]) ?_;exact⟨rfl,rfl⟩
theorem FF(L:gQ)(M:Mem)(A:Option Addr)(c:Nat)(l:List Int)(hl:l.length≤L.n*64)(hb:u8s l)(w:World)(hi:Inv w (bK [eH L M]) [eH L M] w)(hrd:∀w',dQ (bK [eH L M]) w w'→Rd w' .u8 A l.length c l):
  Ctr prog 60 [.pointer (some ⟨L.bm,0,none⟩),.slice A l.length c] w [eH L M] (fun v' cs=>v'= .int .i64 0∧cs=[eH L (M.fill 0 l l.length)]):=by
 obtain⟨n1,n64,hdl,hdb,htl⟩:=lr (hi.ok _ (List.mem_cons_self ..));have hrw:=hrd w (dQ.refl _ _);refine bL func60 rfl ntmps60 rfl hi ?_;refine eo ?_;refine ZSe (fun w hi=>mA L M w (hi.get Zh)) ?_;refine Zy (cu rfl rfl Zv0 Zl) ?_;refine Z_3 ?_;refine bY rfl ((aF (by omega))) ?_;refine eo ?_;refine cJ (fun k:Nat=>[(0,.pointer (some ⟨L.bm,0,none⟩)),(13,.slice A l.length c),(14,.int .i64 l.length),(15,.int .i64 (k:Int))]) (fun k=>[eH L (M.fill 0 l k)]) (fun k=>k≤l.length) (fun k=>l.length - k) (0) ?_ ?_ ?_ ?_
 ·exact aw _
 ·exact Zwk
 ·exact Zu
 rintro k hk;refine Z_6 ?_;refine ZW ?_ ?_<;>intro hc4
 ·simp only[ap]at hc4;have hkl:k<l.length:=by omega
  have hbk:=jN hb k;obtain⟨ad,rfl⟩:=hrw.some_ (by omega);refine Z_7 ?_;refine Zy (dk (j:=k) rfl Zrf (Zv rfl) (Zv rfl) (fun _=>by omega) (fun _=>by omega)) ?_;refine dU (bM Zrf Zv0) (uD hrd (df (DU hkl))) rfl ?_;refine Z_7 ?_;refine Zy (cu rfl rfl (Zv rfl) (show IntKind.u32.wrap (k:Int)=((0+k:Nat):Int) by rw[u32_wrap_id _ (by omega) (by omega)];omega)) ?_;refine ZA ?_;refine ZcM ([eH L (M.fill 0 l k)]) (fun w hi hin=>oW L (M.fill 0 l k) (0+k) (by omega) (gB l k) hbk w hin) ?_;refine Z_4 ?_;refine Zy (cF Zv0 Zv0 Zl) ?_;refine Z_2 ?_;refine eh (k+1) ?_ ?_ ?_
  ·exact⟨by omega,by omega⟩
  ·exact Zwk
  exact Zu
 simp only[aj]at hc4;obtain rfl:k=l.length:=by omega
 refine eo ?_;refine Zrb ([exC _ _ _ _]) ?_;exact⟨rfl,rfl⟩
theorem uH(L:gQ)(M:Mem)(w:World)(h:(eH L M).ok w):Ctr prog 13 [.pointer (some ⟨L.bm,0,none⟩)] w [] (fun v cs=>∃b,v= .slice (some ⟨b,0,none⟩) M.data.length M.data.length∧cs=[sl .u8 5 (some ⟨b,0,none⟩) M.data.length M.data.length M.data]):=by
 obtain⟨n1,n64,hdl,hdb,htl⟩:=lr h;rw[hdl];refine bL func13 rfl ntmps13 rfl (Inv.start w) ?_;refine Z_8 ?_;refine ZSe (fun w hi=>mA L M w (bJ.old h hi)) ?_;refine dM (jr (bytes:=1) (n:=L.n*64) rfl rfl rfl rfl rfl rfl rfl (by omega) (by simp only[maxLen];omega)) rfl ?_;rintro _ _ ⟨b7,rfl,rfl⟩;rw[kW,←zH M.data 0 (L.n*64)];refine gK ?_;refine cJ (fun k:Nat=>[(0,.pointer (some ⟨L.bm,0,none⟩)),(3,.slice (some ⟨b7,0,none⟩) (L.n*64) (L.n*64)),(9,.int .i64 (L.n*64:Nat)),(10,.int .i64 (k:Int))]) (fun k=>[sl .u8 5 (some ⟨b7,0,none⟩) (L.n*64) (L.n*64) (cpy M.data 0 (L.n*64) k)]) (fun k=>k≤L.n*64) (fun k=>L.n*64 - k) (0) ?_ ?_ ?_ ?_
 ·exact aw _
 ·exact Zwk
 ·exact Zu
 rintro k hk;refine Z_6 ?_;refine ZW ?_ ?_<;>intro hc3
 ·simp only[ap]at hc3;have hpk:0+k<L.n*64:=by omega
  refine qp ?_;refine Zy (cu rfl rfl (Zv rfl) (show IntKind.u32.wrap (k:Int)=((0+k:Nat):Int) by rw[u32_wrap_id _ (by omega) (by omega)];omega)) ?_;refine ZSe (fun w hi=>ux L M (0+k) hpk w (bJ.old h hi)) ?_;refine Zy (cI (j:=k) (sz:=1) (r:=k) rfl Zrf (Zv rfl) (Zv rfl) (fun _=>by omega) (fun _=>by omega) (by omega)) ?_;refine dz (gi Zrf rfl rfl rfl Za (by omega)) ?_;rintro _ _ ⟨rfl,rfl⟩;rw[gC,Et _ _ (by omega)];refine Z_4 ?_;refine Zy (cF Zv0 Zv0 Zl) ?_;refine Z_2 ?_;refine eh (k+1) ?_ ?_ ?_
  ·exact⟨by omega,by omega⟩
  ·exact Zwk
  exact Zu
 simp only[aj]at hc3;obtain rfl:k=L.n*64:=by omega
 rw[Eu (by omega),List.drop_zero,List.take_of_length_le (by omega)];refine gK ?_;refine Zrb ([slv _ _ _ _ _ _]) ?_;exact⟨b7,rfl,rfl⟩
theorem tw(L:gQ)(M:Mem)(w:World)(h:(eH L M).ok w):Ctr prog 132 [.pointer (some ⟨L.bm,0,none⟩)] w [] (fun v cs=>∃A c,v= .slice A (iB M.Ip 64).length c∧cs=[sl .i64 3 A (iB M.Ip 64).length c (iB M.Ip 64)]):=by
 obtain⟨n1,n64,hdl,hdb,htl⟩:=lr h;obtain⟨k0,hr0,h1,h2,h3,h4⟩:=nX h;refine bL func132 rfl ntmps132 rfl (Inv.start w) ?_;refine p5 ?_;refine dU (cC (vs:=ls M.Ip) Zrf (fun w=>by rw[jU,htl];rfl) (Zv rfl)) (qB (o:=2) h4 wo) rfl ?_;refine dB 3 1 ?_;refine Z_4 ?_;refine cJ (fun s:Nat×Option Addr×Nat=>[(0,.pointer (some ⟨L.bm,0,none⟩)),(3,.slice s.2.1 (iB M.Ip s.1).length s.2.2),(9,.agg (ls M.Ip).toArray),(10,.int .i64 (s.1:Int))]) (fun s=>[sl .i64 3 s.2.1 (iB M.Ip s.1).length s.2.2 (iB M.Ip s.1)]) (fun s=>s.1≤64) (fun s=>64 - s.1) ((0,none,0)) ?_ ?_ ?_ ?_
 ·exact aw _
 ·exact Zwk
 ·exact Zu
 rintro⟨k,A1,c1⟩ hk;simp only at hk;dsimp only;refine Z_6 ?_;refine ZW ?_ ?_<;>intro hc3
 ·simp only[ap]at hc3;have hle:=Fi M.Ip k;refine Z_7 ?_;refine Zy (yy (j:=k) rfl Zrf Zrf (Zv rfl) (Zv rfl) (fun _=>by omega) (fun _=>by omega) (fun _=>Bu (show k<M.Ip.length by omega))) ?_;refine Z_9 ?_;refine ZW ?_ ?_<;>intro hc5
  ·have he:iB M.Ip (k+1)=iB M.Ip k++[(k:Int)]:=by rw[s7,hc5];rfl
   refine Z_3 ?_;refine dM (cm rfl rfl Zrf Zrf rfl rfl) rfl ?_;rintro _ _ ⟨b17,rfl,rfl⟩;refine dM (cM (e:=3) (sz:=1) (bytes:=8) rfl rfl Za rfl rfl (fun w hi=>hi.rd Zh) (iK rfl) (by simp only[maxLen];omega) (by omega)) rfl ?_;rintro _ _ ⟨A2,c2,rfl,rfl⟩;rw[show(iB M.Ip k).length+1=(iB M.Ip (k+1)).length by(rw[he];simp),show ints .i64 (iB M.Ip k)++[Value.int .i64 (k:Int)]=ints .i64 (iB M.Ip (k+1)) by(rw[he];exact cD _ [_])];refine Z_5 ?_;refine Zy (cF Zv0 Zv0 Zl) ?_;refine Z_2 ?_;refine eh ((k+1,A2,c2)) ?_ ?_ ?_
   ·exact⟨by show k+1≤64;omega,by show 64 - (k+1)<64 - k;omega⟩
   ·exact Zwk
   exact Zu
  have he:iB M.Ip (k+1)=iB M.Ip k:=by(rw[s7,hc5];simp)
  rw[←he];refine Z_4 ?_;refine Zy (cF Zv0 Zv0 Zl) ?_;refine Z_2 ?_;refine eh ((k+1,A1,c1)) ?_ ?_ ?_
  ·exact⟨by show k+1≤64;omega,by show 64 - (k+1)<64 - k;omega⟩
  ·exact Zwk
  exact Zu
 simp only[aj]at hc3;obtain rfl:k=64:=by omega
 refine gK ?_;refine Zrb ([slv _ _ _ _ _ _]) ?_;exact⟨_,_,rfl,rfl⟩
theorem uE(L:gQ)(M:Mem)(w:World)(hi:Inv w (bK [eH L M]) [eH L M] w):Ctr prog 61 [.pointer (some ⟨L.bm,0,none⟩)] w [eH L M] (fun v cs=>v= .tuple #[]∧cs=[eH L M.calm]):=by
 refine ctr_E hi fun k hr hi'=>?_
 have htl:=hr.tl;refine bL func61 rfl ntmps61 rfl hi' ?_;unfold BD;refine Z_2 ?_;refine Zy (iw (vs:=List.replicate 64 (Value.bool false)) Zk (.inr ⟨_,_,_,rfl,fun _=>rfl⟩)) ?_;refine Z_2 ?_;refine dz (jG (n:=64) Zrf rfl rfl (fun u hu=>by rw[List.eq_of_mem_replicate hu];rfl) Za (aO) (by rw[j9 htl,aO];omega)) ?_;rintro _ _ ⟨rfl,rfl⟩;rw[aO,uR htl];refine Zn (fL (cs':=[row _ _ _,row _ _ _,slv _ _ _ _ _ _,slv _ _ _ _ _ _,row _ _ _]) (.inr rfl) Zu rfl ?_);exact⟨rfl,k,hr.calm,rfl⟩
theorem rnew_ok(bp bt:Nat)(w:World):Ctr prog 59 [.pointer (some ⟨bp,0,none⟩),.pointer (some ⟨bt,0,none⟩)] w [] (fun v cs=>∃bm,v= .tuple #[.pointer (some ⟨bm,0,none⟩),.int .i64 0]∧cs=[wn ⟨bp,bt,0,0,bm,0,0⟩ (List.replicate 64 false)]):=by
 refine bL func59 rfl ntmps59 rfl (Inv.start w) ?_;refine vo ?_;refine bY rfl (rfl) ?_;refine Z_7 ?_;refine ZO fun b15=>?_
 refine Z_5 ?_;refine fw (cs':=[row _ _ _]) (.inl rfl) Zu rfl rfl rfl ?_;exact⟨_,rfl,rfl⟩
end Go.Proofs.YtomjgmbccamgiaaGreatDoor
namespace Go.Ink
open Go.RowKit
structure TE where
 valid:Bool
 vpn:Int
 pfn:Int
 bits:Int
structure TE.wf(e:TE):Prop where
 vpn:u32 e.vpn
 pfn:u32 e.pfn
 bits:u32 e.bits
def TE.zero:TE:=⟨false,0,0,0⟩
def TE.cells(e:TE):List Value:=[.bool e.valid,.int .u32 e.vpn,.int .u32 e.pfn,.int .u32 e.bits]
def eC(T:List TE):List Value:=T.flatMap TE.cells
structure Tr where
 Im:Int
 addr:Int
def Tr.none:Tr:=⟨0,0⟩
abbrev Tr.cells(t:Tr):List Value:=[.int .i64 t.Im,.int .u32 t.addr]
abbrev Tr.v(t:Tr):Value:= .agg t.cells.toArray
abbrev TE.v(e:TE):Value:= .agg e.cells.toArray
theorem gw:∀T:List TE,(eC T).length=T.length*4
 |[]=>rfl
 |e::T=>by
  have:=gw T;simp only[eC]at this;simp[eC,TE.cells,this];omega
theorem jb:∀{T:List TE} {i:Nat} {e:TE},T[i]? =some e→((eC T).drop (i*4)).take 4=e.cells
 |[],i,e,h=>by simp at h
 |x::T,0,e,h=>by
  simp only[List.getElem?_cons_zero,aU]at h;subst h
  rfl
 |x::T,i+1,e,h=>by
  simp only[List.getElem?_cons_succ]at h;have:=jb h;simp only[eC,List.flatMap_cons]at this⊢;rw[show(i+1)*4=i*4+4 by omega,←List.drop_drop,show(TE.cells x++T.flatMap TE.cells).drop (i*4)=(TE.cells x++T.flatMap TE.cells).drop (i*4)from rfl];rw[List.drop_drop,show i*4+4=(TE.cells x).length+i*4 by simp[TE.cells];omega,←List.drop_drop,List.drop_left];exact this
theorem lE:∀{T:List TE} {i:Nat} (e:TE),i<T.length→(eC T).take (i*4)++e.cells++(eC T).drop (i*4+4)=eC (T.set i e)
 |[],i,e,h=>by simp at h
 |x::T,0,e,_=>by simp[eC,TE.cells]
 |x::T,i+1,e,h=>by
  have ih:=lE (T:=T) (i:=i) e (by simpa using h);simp only[eC,List.set_cons_succ,List.flatMap_cons]at ih⊢;have hl:(TE.cells x).length=4:=rfl;rw[show(i+1)*4=(TE.cells x).length+i*4 by rw[hl];omega,List.take_length_add_append,show(TE.cells x).length+i*4+4=(TE.cells x).length+(i*4+4) by omega,List.drop_length_add_append,aq,aq,←aq _ _ (List.drop _ _),ih]
def iD(b:Int)(Il:Bool):Int:=bif Il then b else bits .or .u32 b 16
def asked(kind:Int)(Il:Bool):Int×Bool:=
 bif kind==1 then(iD 8 Il,true)else bif kind==2 then(iD 2 Il,true)else bif kind==3 then(iD 68 Il,true)else(0,false)
def fault(kind:Int):Int:=bif kind==1 then 7 else bif kind==2 then 8 else bif kind==3 then 9 else 0
def nB(kind:Int)(Il:Bool):Int:=
 iD (bif kind==1 then bits .or .u32 1 8 else bif kind==2 then bits .or .u32 1 2 else bif kind==3 then bits .or .u32 1 4 else 1) Il
def xx(T:List TE)(va:Nat):TE:=T.getD (va/64%16) TE.zero
def nh(e:TE)(va:Nat)(a:Int×Bool):Bool:=((!a.2|| !e.valid)||(e.vpn !=((va/64:Nat):Int)))||(bits .and .u32 e.bits a.1 !=a.1)
def pQ(pfn:Int)(va:Nat):Int:=IntKind.u32.wrap (IntKind.u32.wrap (pfn*64)+((va%64:Nat):Int))
def qb(T:List TE)(va:Nat)(kind:Int)(Il:Bool):Int×Bool:=
 bif nh (xx T va) va (asked kind Il)then(0,false)else(pQ (xx T va).pfn va,true)
def Ck(T:List TE)(e:TE):List TE:=bif e.valid then T.set (e.vpn.toNat%16) e else T
def sJ(T:List TE)(va:Nat):List TE:=bif(xx T va).vpn==((va/64:Nat):Int)then T.set (va/64%16) TE.zero else T
def eE:List TE:=List.replicate 16 TE.zero
def jS(n:Nat)(d:List Int)(a:Nat):Option Int:=bif decide (a+4≤n*64)then some (qO d a)else none
def at1(root va:Nat):Nat:=root/64*64+4*(va/1024%16)
def at2(e:Int)(va:Nat):Nat:=(e/256).toNat*64+4*(va/64%16)
def yd(n:Nat)(d:List Int)(va:Nat)(e:Int):Option (Nat×Int):=
 bif e%2==0 then none else(jS n d (at2 e va)).map fun l=>(at2 e va,l)
def lU(n:Nat)(d:List Int)(root va:Nat):Option (Nat×Int):=
 bif decide (16384≤va)then none else(jS n d (at1 root va)).bind (yd n d va)
def lookV(r:Option (Nat×Int)):Value:=match r with|some (a,l)=> .tuple #[.int .u32 a,.int .u32 l,.bool true]|none=> .tuple #[.int .u32 0,.int .u32 0,.bool false]
def mY(l:Int)(kind:Int):Int:=bif kind==3 then bits .or .u32 (bits .or .u32 l 32) 64 else bits .or .u32 l 32
def leafE(va:Nat)(l:Int):TE:=⟨true,((va/64:Nat):Int),l/256,bits .and .u32 l 94⟩
def gR(n:Nat)(M:Mem)(root va:Nat)(kind:Int)(Il:Bool):(TE×Tr)×Mem:=
 bif fault kind==0 then((TE.zero,⟨10,va⟩),M)else
 match lU n M.data root va with
 |none=>((TE.zero,⟨fault kind,va⟩),M)
 |some (a,l)=>bif bits .and .u32 l (nB kind Il) !=nB kind Il then((TE.zero,⟨fault kind,va⟩),M)else
   ((leafE va (mY l kind),Tr.none),bif mY l kind !=l then M.IU a (mY l kind)else M)
structure Mmu where
 m:Mem
 t:List TE
structure Sp where
 It:Bool
 Il:Bool
 root:Nat
abbrev Sp.v(s:Sp):Value:= .agg #[.bool s.It,.bool s.Il,.int .u32 (s.root:Int)]
def dh(n:Nat)(U:Mmu)(s:Sp)(va:Nat)(kind:Int):(Int×Tr)×Mmu:=
 bif !s.It then(((va:Int),Tr.none),U)else
 bif(qb U.t va kind s.Il).2 then(((qb U.t va kind s.Il).1,Tr.none),U)else
 bif(gR n U.m s.root va kind s.Il).1.2.Im !=0 then((0,(gR n U.m s.root va kind s.Il).1.2),⟨(gR n U.m s.root va kind s.Il).2,U.t⟩)else
 ((pQ (gR n U.m s.root va kind s.Il).1.1.pfn va,(gR n U.m s.root va kind s.Il).1.2),⟨(gR n U.m s.root va kind s.Il).2,Ck U.t (gR n U.m s.root va kind s.Il).1.1⟩)
def qf(a:Int):Bool:=decide (32768≤a)&&decide (a<33024)
def cW(n:Nat)(U:Mmu)(s:Sp)(va:Nat)(kind:Int):(Int×Tr)×Mmu:=
 bif fault kind==0 then((0,⟨10,va⟩),U)else
 bif(dh n U s va kind).1.2.Im !=0 then((0,(dh n U s va kind).1.2),(dh n U s va kind).2)else
 bif(decide ((dh n U s va kind).1.1<((n*64:Nat):Int))||((kind !=1)&&qf (dh n U s va kind).1.1))then dh n U s va kind else((0,⟨10,va⟩),(dh n U s va kind).2)
end Go.Ink
namespace Go.Proofs.YtomjgmbccamgiaaGreatDoor
open Go.RowKit Go.Ink Go.Proofs.Tryz
attribute [local irreducible] OpY bW
abbrev sF(bb:Nat)(T:List TE):bJ:=row bb (eC T) 126
theorem qy(v:Nat)(w:World):Ctr prog 180 [.int .u32 v] w [] (fun x cs=>x= .int .u32 (v%16:Nat)∧cs=[]):=by
 refine bL func180 rfl ntmps180 rfl (Inv.start w) ?_;refine Z_8 ?_;refine Zy (gt (Zv rfl) (Zv rfl) (by omega) (show _=((v%16:Nat):Int)from by rw[aD (by omega)];omega)) ?_;refine Z_4 ?_;refine Zra ?_;exact⟨rfl,rfl⟩
theorem Cm(kind:Int)(Il:Bool)(w:World):Ctr prog 181 [.int .i64 kind,.bool Il] w [] (fun x cs=>x= .tuple #[.int .u32 (asked kind Il).1,.bool (asked kind Il).2]∧cs=[]):=by
 refine bL func181 rfl ntmps181 rfl (Inv.start w) ?_;refine ln ?_;refine Z_4 ?_;refine ZW ?_ ?_<;>intro hc4
 ·refine gK ?_;refine ZW ?_ ?_<;>intro hc10
  ·have hs:Il=false:=by simpa using hc10
   refine ic ?_;refine fw (cs':=[]) (.inl rfl) Zu rfl rfl rfl ?_;refine⟨?_,rfl⟩;simp only[asked,iD, *,ac,aa]
  have hs:Il=true:=by simpa using hc10
  refine eK ?_;refine fw (cs':=[]) (.inl rfl) Zu rfl rfl rfl ?_;refine⟨?_,rfl⟩;simp only[asked,iD, *,ac,aa]
 refine Z_6 ?_;refine ZW ?_ ?_<;>intro hc6
 ·refine gK ?_;refine ZW ?_ ?_<;>intro hc10
  ·have hs:Il=false:=by simpa using hc10
   refine ic ?_;refine fw (cs':=[]) (.inl rfl) Zu rfl rfl rfl ?_;refine⟨?_,rfl⟩;simp only[asked,iD, *,ac,aa]
  have hs:Il=true:=by simpa using hc10
  refine eK ?_;refine fw (cs':=[]) (.inl rfl) Zu rfl rfl rfl ?_;refine⟨?_,rfl⟩;simp only[asked,iD, *,ac,aa]
 refine Z_6 ?_;refine ZW ?_ ?_<;>intro hc8
 ·refine gK ?_;refine ZW ?_ ?_<;>intro hc10
  ·have hs:Il=false:=by simpa using hc10
   refine ic ?_;refine fw (cs':=[]) (.inl rfl) Zu rfl rfl rfl ?_;refine⟨?_,rfl⟩;simp only[asked,iD, *,ac,aa]
  have hs:Il=true:=by simpa using hc10
  refine eK ?_;refine fw (cs':=[]) (.inl rfl) Zu rfl rfl rfl ?_;refine⟨?_,rfl⟩;simp only[asked,iD, *,ac,aa]
 refine Z_9 ?_;refine fw (cs':=[]) (.inl rfl) Zu rfl rfl rfl ?_;refine⟨?_,rfl⟩;simp only[asked,iD, *,ac,aa]
theorem Cg(w:World):Ctr prog 62 [] w [] (fun x cs=>∃bb,x= .pointer (some ⟨bb,0,none⟩)∧cs=[sF bb eE]):=by
 refine bL func62 rfl ntmps62 rfl (Inv.start w) ?_;refine Z_7 ?_;refine Zy (iw (vs:=eC eE) Zk (.inl ⟨_,rfl,rfl⟩)) ?_;refine ZO fun b2=>?_
 refine Z_4 ?_;refine Zrb ([row _ _ _]) ?_;exact⟨_,rfl,rfl⟩
theorem Fq(bb:Nat)(T:List TE)(hT:T.length=16)(va:Nat)(hva:va≤4294967295)(kind:Int)(Il:Bool)(w:World)(h:(sF bb T).ok w):Ctr prog 137 [.pointer (some ⟨bb,0,none⟩),.int .u32 va,.int .i64 kind,.bool Il] w [] (fun x cs=>x= .tuple #[.int .u32 (qb T va kind Il).1,.bool (qb T va kind Il).2]∧cs=[]):=by
 have hlt:va/64%16<T.length:=by omega
 have he:T[va/64%16]? =some (xx T va):=by simp[xx,hlt]
 obtain⟨e,hee⟩:=Zgn (xx T va);obtain⟨a,ha⟩:=Zgn (asked kind Il);have hA:=Cm kind Il;unfold qb;rw[hee]at he⊢;rw[ha]at hA⊢;refine bL func137 rfl ntmps137 rfl (Inv.start w) ?_;refine Z_9 ?_;refine Zy (jA (Zv rfl) (Zv rfl) (by omega) (show _=((va/64:Nat):Int)from by rw[bn (by omega),u32_wrap_id _ (by omega) (by omega)];omega)) ?_;refine Z_4 ?_;refine cj ⟨fun j=>List.elem j [8],[]⟩ Zk ?_;refine ZE 0 ?_;refine ZE 1 ?_;refine ZE 3 ?_;refine ZFe 4 0 ?_;refine j4 2 7 Zk ?_ ?_
 ·refine ZT (fun w hi=>qy (va/64) w) ?_;rintro _ _ ⟨_,⟨rfl,rfl⟩,rfl⟩;refine cR 5 rfl Zk Zk Zk (dy (j:=(va/64%16)) (sz:=4) (r:=(va/64%16)*4) rfl Zrf (Zv rfl) (Zv rfl) (fun _=>by omega) (fun _=>by omega) (by omega)) rfl ?_;refine eQ 6 rfl Zk Zk Zk Zk (cC (vs:=e.cells) Zrf Zrf Zv0) (qB (o:=(va/64%16)*4) h (jb he)) rfl ?_;refine cE 7 Zk ?_;refine ZP fun b11=>?_
  refine cE 8 Zk ?_;refine ZR ?_;refine bO Zk ?_;refine Z_5 ?_;refine ZSe (fun w hi=>hA w) ?_;refine ln ?_;refine jW ?_;refine ZW ?_ ?_<;>intro hc4
  ·have hc:nh e va a=true:=hc4;refine Z_8 ?_;refine fw (cs':=[]) (.inl rfl) Zu rfl rfl rfl ?_;rw[hc];exact⟨rfl,rfl⟩
  have hc:nh e va a=false:=hc4;refine Z_6 ?_;refine Zy (i3 Zv0 Zv0 rfl) ?_;refine ZA ?_;refine Zy (gt (Zv rfl) (Zv rfl) (by omega) (show _=((va%64:Nat):Int)from by rw[aD (by omega)];omega)) ?_;refine Zy (cF Zv0 Zv0 rfl) ?_;refine Z_5 ?_;refine fw (cs':=[]) (.inl rfl) Zu rfl rfl rfl ?_;rw[hc];exact⟨rfl,rfl⟩
 refine ZP fun b11=>?_
 refine cE 2 Zk ?_;refine ZT (fun w hi=>qy (va/64) w) ?_;rintro _ _ ⟨_,⟨rfl,rfl⟩,rfl⟩;refine cR 5 rfl Zk Zk Zk (dy (j:=(va/64%16)) (sz:=4) (r:=(va/64%16)*4) rfl Zrf (Zv rfl) (Zv rfl) (fun _=>by omega) (fun _=>by omega) (by omega)) rfl ?_;refine eQ 6 rfl Zk Zk Zk Zk (cC (vs:=e.cells) Zrf Zrf Zv0) (qB (o:=(va/64%16)*4) h (jb he)) rfl ?_;refine cE 8 Zk ?_;refine ZR ?_;refine bO Zk ?_;refine Z_5 ?_;refine ZSe (fun w hi=>hA w) ?_;refine ln ?_;refine jW ?_;refine ZW ?_ ?_<;>intro hc4
 ·have hc:nh e va a=true:=hc4;refine Z_8 ?_;refine fw (cs':=[]) (.inl rfl) Zu rfl rfl rfl ?_;rw[hc];exact⟨rfl,rfl⟩
 have hc:nh e va a=false:=hc4;refine Z_6 ?_;refine Zy (i3 Zv0 Zv0 rfl) ?_;refine ZA ?_;refine Zy (gt (Zv rfl) (Zv rfl) (by omega) (show _=((va%64:Nat):Int)from by rw[aD (by omega)];omega)) ?_;refine Zy (cF Zv0 Zv0 rfl) ?_;refine Z_5 ?_;refine fw (cs':=[]) (.inl rfl) Zu rfl rfl rfl ?_;rw[hc];exact⟨rfl,rfl⟩
theorem Fs(bb:Nat)(T:List TE)(hT:T.length=16)(e:TE)(he:e.wf)(w:World)(hi:Inv w (bK [sF bb T]) [sF bb T] w):Ctr prog 139 [.pointer (some ⟨bb,0,none⟩),e.v] w [sF bb T] (fun x cs=>x= .bool e.valid∧cs=[sF bb (Ck T e)]):=by
 obtain⟨v0,v1⟩:=he.vpn;obtain⟨vp,hvp⟩:=ar v0;obtain⟨ev,evpn,epfn,eb⟩:=e;simp only at hvp v0 v1;subst hvp;refine bL func139 rfl ntmps139 rfl hi ?_;refine Z_2 ?_;refine ZO fun b3=>?_;refine eK ?_;refine ZW ?_ ?_<;>intro hc1
 ·have hv:ev=true:=hc1;subst hv;refine cj ⟨fun j=>List.elem j [8],[]⟩ Zk ?_;refine ZE 0 ?_;refine ZFe 1 1 ?_;refine ZG 2 ?_;refine ZI 4 ?_;refine ZE 5 ?_;refine ZFe 6 0 ?_;refine cE 3 Zk ?_;refine ZT (fun w hi=>qy vp w) ?_;rintro _ _ ⟨_,⟨rfl,rfl⟩,rfl⟩;refine cR 7 rfl Zk Zk Zk (dy (j:=(vp%16)) (sz:=4) (r:=(vp%16)*4) rfl Zrf (Zv rfl) (Zv rfl) (fun _=>by omega) (fun _=>by omega) (by omega)) rfl ?_;refine cE 8 Zk ?_;refine dC rfl rfl (jG (n:=4) (vs:=TE.cells ⟨true,(vp:Int),epfn,eb⟩) Zrf rfl rfl (iK rfl) Za rfl (by rw[gw];simp only[TE.cells,ai,ao];omega)) ZJ ?_;rintro _ _ ⟨rfl,rfl⟩;rw[show(TE.cells ⟨true,(vp:Int),epfn,eb⟩).length=4 from rfl,lE (T:=T) (i:=vp%16) ⟨true,(vp:Int),epfn,eb⟩ (by omega)];refine bO Zk ?_;refine Z_9 ?_;refine Zrb ([row _ _ _]) ?_;exact⟨rfl,rfl⟩
 have hv:ev=false:=hc1;subst hv;refine eK ?_;refine Zrb ([row _ _ _]) ?_;exact⟨rfl,rfl⟩
theorem Ft(bb:Nat)(T:List TE)(hT:T.length=16)(va:Nat)(hva:va≤4294967295)(w:World)(hi:Inv w (bK [sF bb T]) [sF bb T] w):Ctr prog 225 [.pointer (some ⟨bb,0,none⟩),.int .u32 va] w [sF bb T] (fun x cs=>x= .tuple #[]∧cs=[sF bb (sJ T va)]):=by
 have hlt:va/64%16<T.length:=by omega
 have he:T[va/64%16]? =some (xx T va):=by simp[xx,hlt]
 have hcell:(eC T)[(va/64%16)*4+1]? =some (.int .u32 (xx T va).vpn):=by
  have h1:=jb he;have h2:(((eC T).drop ((va/64%16)*4)).take 4)[1]? =some (.int .u32 (xx T va).vpn):=by rw[h1];rfl
  rw[List.getElem?_take,if_pos (by omega),List.getElem?_drop]at h2;exact h2
 unfold sJ;obtain⟨e,hee⟩:=Zgn (xx T va);rw[hee]at hcell⊢;refine bL func225 rfl ntmps225 rfl hi ?_;refine Z_3 ?_;refine Zy (jA (Zv rfl) (Zv rfl) (by omega) (show _=((va/64:Nat):Int)from by rw[bn (by omega),u32_wrap_id _ (by omega) (by omega)];omega)) ?_;refine Z_4 ?_;refine cj ⟨fun j=>List.elem j [],[]⟩ Zk ?_;refine ZE 0 ?_;refine ZE 1 ?_;refine ZE 3 ?_;refine ZFe 4 0 ?_;refine cE 2 Zk ?_;refine ZT (fun w hi=>qy (va/64) w) ?_;rintro _ _ ⟨_,⟨rfl,rfl⟩,rfl⟩;refine cR 5 rfl Zk Zk Zk (dy (j:=(va/64%16)) (sz:=4) (r:=(va/64%16)*4) rfl Zrf (Zv rfl) (Zv rfl) (fun _=>by omega) (fun _=>by omega) (by omega)) rfl ?_;refine ZE 6 ?_;refine bO Zk ?_;refine Z_6 ?_;refine dU (bM Zrf Zv0) (bR Zh hcell) rfl ?_;refine Z_4 ?_;refine ZW ?_ ?_<;>intro hc2
 ·rw[hc2];refine Z_4 ?_;refine dz (jG (n:=4) (vs:=TE.zero.cells) Zrf rfl rfl (iK rfl) Za rfl (by rw[gw];simp only[TE.cells,ai,ao];omega)) ?_;rintro _ _ ⟨rfl,rfl⟩;rw[show TE.zero.cells.length=4 from rfl,lE (T:=T) TE.zero hlt];refine Zn (fL (cs':=[row _ _ _]) (.inr rfl) Zu rfl ?_);exact⟨rfl,rfl⟩
 rw[hc2];refine Zc (fL (cs':=[row _ _ _]) (.inr rfl) Zu rfl ?_);exact⟨rfl,rfl⟩
theorem Ci(bb:Nat)(T:List TE)(hT:T.length=16)(w:World)(hi:Inv w (bK [sF bb T]) [sF bb T] w):Ctr prog 224 [.pointer (some ⟨bb,0,none⟩)] w [sF bb T] (fun x cs=>x= .tuple #[]∧cs=[sF bb eE]):=by
 refine bL func224 rfl ntmps224 rfl hi ?_;refine Z_2 ?_;refine Zy (iw (vs:=eC eE) Zk (.inr ⟨_,_,_,rfl,fun _=>rfl⟩)) ?_;refine Z_2 ?_;refine dz (jG (n:=64) Zrf rfl rfl (iK Zk) Za Zk (by rw[gw,gw,hT];decide)) ?_;rintro _ _ ⟨rfl,rfl⟩;rw[show(eC eE).length=64 by kernel_rfl,List.take_zero,aR,List.drop_eq_nil_of_le (by rw[gw,hT];decide),ay];refine Zn (fL (cs':=[row _ _ _]) (.inr rfl) Zu rfl ?_);exact⟨rfl,rfl⟩
theorem zz(kind:Int)(w:World):Ctr prog 112 [.int .i64 kind] w [] (fun x cs=>x= .int .i64 (fault kind)∧cs=[]):=by
 refine bL func112 rfl ntmps112 rfl (Inv.start w) ?_;refine xk ?_;refine ZW ?_ ?_<;>intro hc2
 ·refine Z_8 ?_;refine Zra ?_;refine⟨?_,rfl⟩;simp only[fault, *,ac,aa]
 refine Z_6 ?_;refine ZW ?_ ?_<;>intro hc4
 ·refine Z_8 ?_;refine Zra ?_;refine⟨?_,rfl⟩;simp only[fault, *,ac,aa]
 refine Z_6 ?_;refine ZW ?_ ?_<;>intro hc6
 ·refine Z_8 ?_;refine Zra ?_;refine⟨?_,rfl⟩;simp only[fault, *,ac,aa]
 refine Z_9 ?_;refine Zra ?_;refine⟨?_,rfl⟩;simp only[fault, *,ac,aa]
theorem Fd(kind:Int)(Il:Bool)(w:World):Ctr prog 182 [.int .i64 kind,.bool Il] w [] (fun x cs=>x= .int .u32 (nB kind Il)∧cs=[]):=by
 refine bL func182 rfl ntmps182 rfl (Inv.start w) ?_;refine ln ?_;refine Z_3 ?_;refine ZW ?_ ?_<;>intro hc3
 ·refine ic ?_;refine ZW ?_ ?_<;>intro hc9
  ·have hs:Il=false:=by simpa using hc9
   refine jW ?_;refine Zra ?_;refine⟨?_,rfl⟩;simp only[nB,iD, *,ac,aa]
  have hs:Il=true:=by simpa using hc9
  refine Z_9 ?_;refine Zra ?_;refine⟨?_,rfl⟩;simp only[nB,iD, *,ac,aa]
 refine Z_6 ?_;refine ZW ?_ ?_<;>intro hc5
 ·refine ic ?_;refine ZW ?_ ?_<;>intro hc9
  ·have hs:Il=false:=by simpa using hc9
   refine jW ?_;refine Zra ?_;refine⟨?_,rfl⟩;simp only[nB,iD, *,ac,aa]
  have hs:Il=true:=by simpa using hc9
  refine Z_9 ?_;refine Zra ?_;refine⟨?_,rfl⟩;simp only[nB,iD, *,ac,aa]
 refine Z_6 ?_;refine ZW ?_ ?_<;>intro hc7
 ·refine ic ?_;refine ZW ?_ ?_<;>intro hc9
  ·have hs:Il=false:=by simpa using hc9
   refine jW ?_;refine Zra ?_;refine⟨?_,rfl⟩;simp only[nB,iD, *,ac,aa]
  have hs:Il=true:=by simpa using hc9
  refine Z_9 ?_;refine Zra ?_;refine⟨?_,rfl⟩;simp only[nB,iD, *,ac,aa]
 refine eK ?_;refine ZW ?_ ?_<;>intro hc9
 ·have hs:Il=false:=by simpa using hc9
  refine jW ?_;refine Zra ?_;refine⟨?_,rfl⟩;simp only[nB,iD, *,ac,aa]
 have hs:Il=true:=by simpa using hc9
 refine Z_9 ?_;refine Zra ?_;refine⟨?_,rfl⟩;simp only[nB,iD, *,ac,aa]
end Go.Proofs.YtomjgmbccamgiaaGreatDoor
namespace Go.Ink
open Go.RowKit
theorem and1{v:Int}(h:u32 v):bits .and .u32 v 1=v%2:=bits_mask .u32 32 (by decide) wraps_u32 1 (by decide) v h.1 (by have:=h.2;omega)
theorem zQ{v:Int}(h:u32 v):bits .and .u32 v 15=v%16:=bits_mask .u32 32 (by decide) wraps_u32 4 (by decide) v h.1 (by have:=h.2;omega)
theorem Hp(a:Int)(n:Nat):a.fdiv (2^n)=a/2^n:=Int.fdiv_eq_ediv_of_nonneg a (by exact Int.le_of_lt (Int.pow_pos (by decide)))
theorem w9(v:Nat)(h:v≤4294967295):bits .andNot .u32 (v:Int) 63=((v/64*64:Nat):Int):=by
 show IntKind.u32.wrap (((BitVec.ofInt 32 (v:Int))&&& ~~~ (BitVec.ofInt 32 63)).toNat:Int)=_;have e1:(BitVec.ofInt 32 (v:Int)).toNat=v:=by rw[BitVec.ofInt_natCast,BitVec.toNat_ofNat];exact Nat.mod_eq_of_lt (by omega)
 have h1:v&&&4294967232=(v/64)*64:=by
  apply Nat.eq_of_testBit_eq;intro i;have e:(4294967232:Nat)=(2^26 - 1)*2^6:=by decide
  rw[e,Nat.testBit_and,show(v/64)*64=(v/2^6)*2^6 from rfl];rw[Nat.testBit_mul_two_pow,Nat.testBit_mul_two_pow,Nat.testBit_two_pow_sub_one,Nat.testBit_div_two_pow];by_cases hi:6≤i
  ·simp only[hi,decide_true,Bool.true_and,show i - 6+6=i by omega];by_cases h26:i - 6<26
   ·simp[h26]
   have:v.testBit i=false:=Nat.testBit_lt_two_pow (Nat.lt_of_lt_of_le (show v<2^32 by omega) (Nat.pow_le_pow_right (by omega) (by omega)));simp[this]
  simp[hi]
 rw[BitVec.toNat_and,e1,show(~~~ (BitVec.ofInt 32 63)).toNat=4294967232 from by decide,h1];exact u32_wrap_id _ (by omega) (by omega)
def H5(o:Option Int):Value:=match o with|some e=> .tuple #[.int .u32 e,.bool true]|none=> .tuple #[.int .u32 0,.bool false]
theorem nk{n:Nat}{d:List Int}{a:Nat}{e:Int}(h:u8s d)(he:jS n d a=some e):u32 e∧a+4≤n*64:=by
 unfold jS at he;cases hc:decide (a+4≤n*64)with
 |true=>
  rw[hc]at he;simp only[ac,aU]at he;subst he;exact⟨sU h a,of_decide_eq_true hc⟩
 |false=>rw[hc]at he;cases he
theorem Dj{n:Nat}{d:List Int}{root va a:Nat}{l:Int}(h:u8s d)(hl:lU n d root va=some (a,l)):u32 l∧a+4≤n*64:=by
 unfold lU at hl;cases hc:decide (16384≤va)with
 |true=>rw[hc]at hl;cases hl
 |false=>
  rw[hc]at hl;simp only[aa]at hl;obtain⟨e,h1,h2⟩:=Option.bind_eq_some_iff.1 hl;unfold yd at h2;cases hc2:(e%2==0)with
  |true=>rw[hc2]at h2;cases h2
  |false=>
   rw[hc2]at h2;simp only[aa]at h2;obtain⟨l',h3,h4⟩:=Option.map_eq_some_iff.1 h2;simp only[aX]at h4;obtain⟨rfl,rfl⟩:=h4;exact nk h h3
theorem ii(op:BinOp)(a b:Int):u32 (bits op .u32 a b):=by
 cases op<;>exact⟨by show 0≤IntKind.u32.wrap _;rw[aE];omega,by show IntKind.u32.wrap _≤_;rw[aE];omega⟩
theorem tH(l:Int)(kind:Int):u32 (mY l kind):=by
 unfold mY;cases(kind==3)
 ·exact ii .or _ _
 exact ii .or _ _
end Go.Ink
namespace Go.Proofs.YtomjgmbccamgiaaGreatDoor
open Go.RowKit Go.Ink Go.Proofs.Tryz
attribute [local irreducible] OpY bW
theorem zE(L:gQ)(M:Mem)(a:Nat)(ha:a≤4294967295000)(w:World)(h:(eH L M).ok w):Ctr prog 226 [.pointer (some ⟨L.bm,0,none⟩),.int .u64 a] w [] (fun v cs=>v=H5 (jS L.n M.data a)∧cs=[]):=by
 obtain⟨n1,n64,hdl,hdb,htl⟩:=lr h;refine bL func226 rfl ntmps226 rfl (Inv.start w) ?_;refine eo ?_;refine ZSe (fun w hi=>mA L M w (bJ.old h hi)) ?_;refine Zy (cu rfl rfl (Zv rfl) (by first|exact IntWalk.u64_in _ ⟨by omega,by omega⟩|exact rfl)) ?_;refine Z_3 ?_;refine ZW ?_ ?_<;>intro hc1
 ·simp only[ap]at hc1;have hc:decide (a+4≤L.n*64)=false:=aF (by omega)
  refine Z_8 ?_;refine fw (cs':=[]) (.inl rfl) Zu rfl rfl rfl ?_;unfold H5 jS;rw[hc];exact⟨rfl,rfl⟩
 simp only[aj]at hc1;refine Z_3 ?_;refine(Bool.eq_false_or_eq_true (decide (a+4≤L.n*64))).elim (fun h0=>?_) (fun h0=>?_)
 ·refine Z_3 ?_;refine Zy (cu rfl rfl (Zv rfl) (u32_wrap_id _ (by omega) (by omega))) ?_;refine ZSe (fun w hi=>uq L M a (by omega) w (bJ.old h hi)) ?_;unfold H5 jS xo;rw[h0];simp only[ac];refine Z_7 ?_;refine fw (cs':=[]) (.inl rfl) Zu rfl rfl rfl ?_;exact⟨rfl,rfl⟩
 refine Z_3 ?_;refine Zy (cu rfl rfl (Zv rfl) (u32_wrap_id _ (by omega) (by omega))) ?_;refine ZSe (fun w hi=>uq L M a (by omega) w (bJ.old h hi)) ?_;unfold H5 jS xo;rw[h0];simp only[aa];refine Z_7 ?_;refine fw (cs':=[]) (.inl rfl) Zu rfl rfl rfl ?_;exact⟨rfl,rfl⟩
theorem look_ok(L:gQ)(M:Mem)(root va:Nat)(hroot:root≤4294967295)(hva:va≤4294967295)(w:World)(h:(eH L M).ok w):Ctr prog 183 [.pointer (some ⟨L.bm,0,none⟩),.int .u32 root,.int .u32 va] w [] (fun v cs=>v=lookV (lU L.n M.data root va)∧cs=[]):=by
 obtain⟨n1,n64,hdl,hdb,htl⟩:=lr h;obtain⟨e1,he1⟩:=Zgn (jS L.n M.data (at1 root va));have HE1:=zE L M (at1 root va) (by unfold at1;omega);rw[he1]at HE1;refine bL func183 rfl ntmps183 rfl (Inv.start w) ?_;refine xk ?_;refine ZW ?_ ?_<;>intro hc1
 ·have hc:decide (16384≤va)=true:=by(have h0:(16384:Int)≤va:=by simpa using hc1);exact aG (by omega)
  have hl:lU L.n M.data root va=none:=by(unfold lU;rw[hc];rfl)
  rw[hl];refine Z_9 ?_;refine tz (cs':=[]) (.inl rfl) Zu rfl rfl rfl rfl ?_;exact⟨rfl,rfl⟩
 have hlt:va<16384:=by(have h0:¬(16384:Int)≤va:=by simpa using hc1);omega
 have hl:lU L.n M.data root va=e1.bind (yd L.n M.data va):=by(unfold lU;rw[aF (by omega),he1];rfl)
 rw[hl];refine Z_3 ?_;revert HE1 he1;refine Option.rec (fun he1 HE1=>?_) (fun e he1 HE1=>?_) e1
 ·refine Z_3 ?_;refine Zy (qs Zv0 Zv0 (w9 root hroot)) ?_;refine Zy (cu rfl rfl (Zv rfl) (by first|exact IntWalk.u64_in _ ⟨by omega,by omega⟩|exact rfl)) ?_;refine ZA ?_;refine Zy (jY (Zv rfl) (Zv rfl) (by omega) (show _=((va/1024:Nat):Int)from(Hp _ 10).trans (by omega))) ?_;refine Zy (nw (Zv rfl) (Zv rfl) (show _=((va/1024%16:Nat):Int)from(zQ ⟨by omega,by omega⟩).trans (by omega))) ?_;refine Zy (i3 (Zv rfl) (Zv rfl) (show _=((4*(va/1024%16):Nat):Int)from(u32_wrap_id _ (by omega) (by omega)).trans (by omega))) ?_;refine Zy (cu rfl rfl (Zv rfl) (by first|exact IntWalk.u64_in _ ⟨by omega,by omega⟩|exact rfl)) ?_;refine Zy (cF (Zv rfl) (Zv rfl) (show _=((at1 root va:Nat):Int)from(u64_wrap_id _ (by omega) (by omega)).trans (by unfold at1;omega))) ?_;refine ZSe (fun w hi=>HE1 w (bJ.old h hi)) ?_;simp only[H5];refine He ?_;refine cB rfl (rfl) ?_;refine Z_9 ?_;refine tz (cs':=[]) (.inl rfl) Zu rfl rfl rfl rfl ?_;exact⟨rfl,rfl⟩
 refine Z_3 ?_;refine Zy (qs Zv0 Zv0 (w9 root hroot)) ?_;refine Zy (cu rfl rfl (Zv rfl) (by first|exact IntWalk.u64_in _ ⟨by omega,by omega⟩|exact rfl)) ?_;refine ZA ?_;refine Zy (jY (Zv rfl) (Zv rfl) (by omega) (show _=((va/1024:Nat):Int)from(Hp _ 10).trans (by omega))) ?_;refine Zy (nw (Zv rfl) (Zv rfl) (show _=((va/1024%16:Nat):Int)from(zQ ⟨by omega,by omega⟩).trans (by omega))) ?_;refine Zy (i3 (Zv rfl) (Zv rfl) (show _=((4*(va/1024%16):Nat):Int)from(u32_wrap_id _ (by omega) (by omega)).trans (by omega))) ?_;refine Zy (cu rfl rfl (Zv rfl) (by first|exact IntWalk.u64_in _ ⟨by omega,by omega⟩|exact rfl)) ?_;refine Zy (cF (Zv rfl) (Zv rfl) (show _=((at1 root va:Nat):Int)from(u64_wrap_id _ (by omega) (by omega)).trans (by unfold at1;omega))) ?_;refine ZSe (fun w hi=>HE1 w (bJ.old h hi)) ?_;simp only[H5];refine eK ?_;have heu:=(nk hdb he1).1;obtain⟨eu0,eu1⟩:=heu;refine Z_4 ?_;refine Zyn rfl rfl (nw (dc rfl) Zv0 (and1 ⟨eu0,eu1⟩)) ?_;refine Z_4 ?_;refine ZW ?_ ?_<;>intro hc4
 ·have hc:(e%2==0)=true:=hc4;have hl2:(some e).bind (yd L.n M.data va)=none:=by(simp only[Option.bind_some];unfold yd;rw[hc];rfl)
  rw[hl2];refine Z_9 ?_;refine tz (cs':=[]) (.inl rfl) Zu rfl rfl rfl rfl ?_;exact⟨rfl,rfl⟩
 have hc:(e%2==0)=false:=hc4;have hl2:(some e).bind (yd L.n M.data va)=(jS L.n M.data (at2 e va)).map fun l=>(at2 e va,l):=by(simp only[Option.bind_some];unfold yd;rw[hc];rfl)
 rw[hl2];obtain⟨e2,he2⟩:=Zgn (jS L.n M.data (at2 e va));have HE2:=zE L M (at2 e va) (by unfold at2;omega);rw[he2]at HE2⊢;have hat:((at2 e va:Nat):Int)=e/256*64+4*((va/64%16:Nat):Int):=(by unfold at2;omega);refine Z_5 ?_;refine Zy (jY (Zv rfl) (Zv rfl) (by omega) (show _=e/256 from Hp _ 8)) ?_;refine Zy (cu rfl rfl (Zv rfl) (by first|exact IntWalk.u64_in _ ⟨by omega,by omega⟩|exact rfl)) ?_;refine Zy (i3 (Zv rfl) (Zv rfl) (show _=e/256*64 from u64_wrap_id _ (by omega) (by omega))) ?_;refine ZA ?_;refine Zy (jY (Zv rfl) (Zv rfl) (by omega) (show _=((va/64:Nat):Int)from(Hp _ 6).trans (by omega))) ?_;refine Zy (nw (Zv rfl) (Zv rfl) (show _=((va/64%16:Nat):Int)from(zQ ⟨by omega,by omega⟩).trans (by omega))) ?_;refine Zy (i3 (Zv rfl) (Zv rfl) (show _=((4*(va/64%16):Nat):Int)from(u32_wrap_id _ (by omega) (by omega)).trans (by omega))) ?_;refine Zy (cu rfl rfl (Zv rfl) (by first|exact IntWalk.u64_in _ ⟨by omega,by omega⟩|exact rfl)) ?_;refine Zy (cF (Zv rfl) (Zv rfl) (show _=((at2 e va:Nat):Int)from(u64_wrap_id _ (by omega) (by omega)).trans (by omega))) ?_;refine Z_4 ?_;revert HE2 he2;refine Option.rec (fun he2 HE2=>?_) (fun l he2 HE2=>?_) e2
 ·refine Z_3 ?_;refine ZSe (fun w hi=>HE2 w (bJ.old h hi)) ?_;simp only[H5];refine ic ?_;refine cB rfl (rfl) ?_;refine Z_9 ?_;refine tz (cs':=[]) (.inl rfl) Zu rfl rfl rfl rfl ?_;exact⟨rfl,rfl⟩
 refine Z_3 ?_;refine ZSe (fun w hi=>HE2 w (bJ.old h hi)) ?_;simp only[H5];refine ic ?_;refine bY rfl (rfl) ?_;refine Z_4 ?_;have h2in:=(nk hdb he2).2;refine ZA ?_;refine Zy (cu rfl rfl (Zv rfl) (u32_wrap_id _ (by omega) (by omega))) ?_;refine Z_7 ?_;refine tz (cs':=[]) (.inl rfl) Zu rfl rfl rfl rfl ?_;exact⟨rfl,rfl⟩
theorem wdo_ok(L:gQ)(M:Mem)(root va:Nat)(hroot:root≤4294967295)(hva:va≤4294967295)(kind:Int)(Il:Bool)(w:World)(hi:Inv w (bK [eH L M]) [eH L M] w):
  Ctr prog 138 [.pointer (some ⟨L.bm,0,none⟩),.int .u32 root,.int .u32 va,.int .i64 kind,.bool Il] w [eH L M] (fun v cs=>v= .tuple #[(gR L.n M root va kind Il).1.1.v,(gR L.n M root va kind Il).1.2.v]∧cs=[eH L (gR L.n M root va kind Il).2]):=by
 obtain⟨n1,n64,hdl,hdb,htl⟩:=lr (hi.ok _ (List.mem_cons_self ..));obtain⟨fk,hfk⟩:=Zgn (fault kind);obtain⟨wb,hwb⟩:=Zgn (nB kind Il);obtain⟨lk,hlk⟩:=Zgn (lU L.n M.data root va);have HF:=zz kind;have HB:=Fd kind Il;have HL:=look_ok L M root va hroot hva;unfold gR;rw[hfk]at HF⊢;rw[hwb]at HB⊢;rw[hlk]at HL⊢;refine bL func138 rfl ntmps138 rfl hi ?_;refine Z_2 ?_;refine ZN fun b10=>?_;refine ZN fun b11=>?_
 refine Z_5 ?_;refine ZSe (fun w hi=>HF w) ?_;refine ic ?_;refine ZW ?_ ?_<;>intro hc2
 ·have hc:(fk==0)=true:=hc2;rw[hc];simp only[ac];refine Z_5 ?_;refine ZM ?_;refine ZM ?_;refine Z_4 ?_;refine xG (cs':=[exC _ _ _ _]) (.inl rfl) Zu rfl rfl rfl Zh Zh Zrf Zrf Zrf Zrf ?_;exact⟨rfl,rfl⟩
 have hc:(fk==0)=false:=hc2;rw[hc];simp only[aa];refine Z_6 ?_;refine ZSe (fun w hi=>HB w) ?_;refine Z_4 ?_;revert HL hlk;refine Option.rec (fun hlk HL=>?_) (fun al hlk HL=>?_) lk
 ·refine Z_4 ?_;refine ZSe (fun w hi=>HL w (hi.get Zh)) ?_;simp only[lookV];refine ln ?_;refine Z_3 ?_;refine cB rfl (rfl) ?_;refine Z_6 ?_;refine ZM ?_;refine ZM ?_;refine Z_4 ?_;refine xG (cs':=[exC _ _ _ _]) (.inl rfl) Zu rfl rfl rfl Zh Zh Zrf Zrf Zrf Zrf ?_;exact⟨rfl,rfl⟩
 obtain⟨a,l⟩:=al;have hin:=Dj hdb hlk;obtain⟨lu,ain⟩:=hin;obtain⟨lu0,lu1⟩:=lu;have mu:=tH l kind;simp only;refine Z_4 ?_;refine ZSe (fun w hi=>HL w (hi.get Zh)) ?_;simp only[lookV];refine ln ?_;refine Z_3 ?_;refine ZW ?_ ?_<;>intro hc6
 ·have hc6':(bits .and .u32 l wb !=wb)=true:=hc6;rw[hc6'];simp only[ac];refine Z_6 ?_;refine ZM ?_;refine ZM ?_;refine Z_4 ?_;refine xG (cs':=[exC _ _ _ _]) (.inl rfl) Zu rfl rfl rfl Zh Zh Zrf Zrf Zrf Zrf ?_;exact⟨rfl,rfl⟩
 have hc6':(bits .and .u32 l wb !=wb)=false:=hc6;rw[hc6'];simp only[aa];refine ln ?_;refine Z_2 ?_;refine ZW ?_ ?_<;>intro hc10
 ·have hm:mY l kind=bits .or .u32 (bits .or .u32 l 32) 64:=by(unfold mY;rw[hc10];rfl)
  rw[hm]at mu⊢;obtain⟨m,hmm⟩:=Zgn (bits .or .u32 (bits .or .u32 l 32) 64);refine Z_9 ?_;rw[hmm]at mu⊢;refine Z_5 ?_;refine ZW ?_ ?_<;>intro hc12
  ·rw[hc12];simp only[ac];refine Z_4 ?_;refine ZcM ([eH L M]) (fun w hi hin=>m7 L M a m ain mu w hin) ?_;refine Z_5 ?_;refine Zy (jA (Zv rfl) (Zv rfl) (by omega) (show _=((va/64:Nat):Int)from by rw[bn (by omega),u32_wrap_id _ (by omega) (by omega)];omega)) ?_;refine ZA ?_;refine Zy (jY (Zv rfl) (Zv rfl) (by omega) (show _=m/256 from Hp _ 8)) ?_;refine Z_4 ?_;refine ZM ?_;refine ZM ?_;refine Z_3 ?_;refine xG (cs':=[exC _ _ _ _]) (.inl rfl) Zu rfl rfl rfl Zh Zh Zrf Zrf Zrf Zrf ?_;exact⟨rfl,rfl⟩
  rw[hc12];simp only[aa];refine Z_5 ?_;refine Zy (jA (Zv rfl) (Zv rfl) (by omega) (show _=((va/64:Nat):Int)from by rw[bn (by omega),u32_wrap_id _ (by omega) (by omega)];omega)) ?_;refine ZA ?_;refine Zy (jY (Zv rfl) (Zv rfl) (by omega) (show _=m/256 from Hp _ 8)) ?_;refine Z_4 ?_;refine ZM ?_;refine ZM ?_;refine Z_3 ?_;refine xG (cs':=[exC _ _ _ _]) (.inl rfl) Zu rfl rfl rfl Zh Zh Zrf Zrf Zrf Zrf ?_;exact⟨rfl,rfl⟩
 have hm:mY l kind=bits .or .u32 l 32:=by(unfold mY;rw[hc10];rfl)
 rw[hm]at mu⊢;obtain⟨m,hmm⟩:=Zgn (bits .or .u32 l 32);refine Z_5 ?_;rw[hmm]at mu⊢;refine Z_5 ?_;refine ZW ?_ ?_<;>intro hc12
 ·rw[hc12];simp only[ac];refine Z_4 ?_;refine ZcM ([eH L M]) (fun w hi hin=>m7 L M a m ain mu w hin) ?_;refine Z_5 ?_;refine Zy (jA (Zv rfl) (Zv rfl) (by omega) (show _=((va/64:Nat):Int)from by rw[bn (by omega),u32_wrap_id _ (by omega) (by omega)];omega)) ?_;refine ZA ?_;refine Zy (jY (Zv rfl) (Zv rfl) (by omega) (show _=m/256 from Hp _ 8)) ?_;refine Z_4 ?_;refine ZM ?_;refine ZM ?_;refine Z_3 ?_;refine xG (cs':=[exC _ _ _ _]) (.inl rfl) Zu rfl rfl rfl Zh Zh Zrf Zrf Zrf Zrf ?_;exact⟨rfl,rfl⟩
 rw[hc12];simp only[aa];refine Z_5 ?_;refine Zy (jA (Zv rfl) (Zv rfl) (by omega) (show _=((va/64:Nat):Int)from by rw[bn (by omega),u32_wrap_id _ (by omega) (by omega)];omega)) ?_;refine ZA ?_;refine Zy (jY (Zv rfl) (Zv rfl) (by omega) (show _=m/256 from Hp _ 8)) ?_;refine Z_4 ?_;refine ZM ?_;refine ZM ?_;refine Z_3 ?_;refine xG (cs':=[exC _ _ _ _]) (.inl rfl) Zu rfl rfl rfl Zh Zh Zrf Zrf Zrf Zrf ?_;exact⟨rfl,rfl⟩
end Go.Proofs.YtomjgmbccamgiaaGreatDoor
namespace Go.Ink
open Go.RowKit
theorem Gp{va:Nat}(h:va≤4294967295){l:Int}(hl:u32 l):(leafE va l).wf:=
 ⟨⟨by show(0:Int)≤((va/64:Nat):Int);omega,by show((va/64:Nat):Int)≤_;omega⟩,⟨by show 0≤l/256;have:=hl.1;omega,by show l/256≤_;have:=hl.1;have:=hl.2;omega⟩,ii .and _ _⟩
theorem TE.Jj:TE.zero.wf:=⟨⟨by decide,by decide⟩,⟨by decide,by decide⟩,⟨by decide,by decide⟩⟩
theorem BS(n:Nat)(M:Mem)(root va:Nat)(h:va≤4294967295)(kind:Int)(Il:Bool):(gR n M root va kind Il).1.1.wf:=by
 unfold gR;cases(fault kind==0)with
 |true=>exact TE.Jj
 |false=>
  simp only[aa];split
  ·exact TE.Jj
  rename_i a l _
  cases(bits .and .u32 l (nB kind Il) !=nB kind Il)with
  |true=>exact TE.Jj
  |false=>exact Gp h (tH l kind)
theorem Cj(T:List TE)(e:TE):(Ck T e).length=T.length:=by unfold Ck;cases e.valid<;>simp
theorem Cl(T:List TE)(va:Nat):(sJ T va).length=T.length:=by unfold sJ;cases((xx T va).vpn==((va/64:Nat):Int))<;>simp
theorem vC(n:Nat)(U:Mmu)(s:Sp)(va:Nat)(kind:Int):(dh n U s va kind).2.t.length=U.t.length:=by
 unfold dh;cases(!s.It)<;>simp only[ac,aa]
 cases(qb U.t va kind s.Il).2<;>simp only[ac,aa]
 cases((gR n U.m s.root va kind s.Il).1.2.Im !=0)<;>simp only[ac,aa,Cj]
theorem ru(n:Nat)(U:Mmu)(s:Sp)(va:Nat)(kind:Int):(cW n U s va kind).2.t.length=U.t.length:=by
 have h:=vC n U s va kind;unfold cW;cases(fault kind==0)<;>simp only[ac,aa]
 cases((dh n U s va kind).1.2.Im !=0)<;>simp only[ac,aa,h]
 cases(decide ((dh n U s va kind).1.1<((n*64:Nat):Int))||((kind !=1)&&qf (dh n U s va kind).1.1))<;>simp only[ac,aa,h]
end Go.Ink
namespace Go.Proofs.YtomjgmbccamgiaaGreatDoor
open Go.RowKit Go.Ink Go.Proofs.Tryz
attribute [local irreducible] OpY bW
abbrev B3(bu bm bb:Nat):bJ:=row bu [.pointer (some ⟨bm,0,none⟩),.pointer (some ⟨bb,0,none⟩)] 121
abbrev uF(bu bb:Nat)(L:gQ)(U:Mmu):List bJ:=[B3 bu L.bm bb,eH L U.m,sF bb U.t]
theorem sd(a:Int)(w:World):Ctr prog 114 [.int .u32 a] w [] (fun v cs=>v= .bool (qf a)∧cs=[]):=by
 refine bL func114 rfl ntmps114 rfl (Inv.start w) ?_;refine vo ?_;refine Zra ?_;exact⟨rfl,rfl⟩
theorem C6(bm:Nat)(w:World):Ctr prog 30 [.pointer (some ⟨bm,0,none⟩)] w [] (fun v cs=>∃bu bb,v= .tuple #[.pointer (some ⟨bu,0,none⟩),.int .i64 0]∧cs=[sF bb eE,B3 bu bm bb]):=by
 refine bL func30 rfl ntmps30 rfl (Inv.start w) ?_;refine jW ?_;refine bY rfl (rfl) ?_;refine Z_5 ?_;refine ZS (fun w hi=>Cg w) ?_;rintro _ _ ⟨_,⟨bb,rfl,rfl⟩,rfl⟩;refine ZA ?_;refine ZO fun b9=>?_
 refine Z_5 ?_;refine fw (cs':=[row _ _ _,row _ _ _]) (.inl rfl) Zu rfl rfl rfl ?_;exact⟨_,_,rfl,rfl⟩
theorem kR(bu bm bb:Nat)(w:World)(h:(B3 bu bm bb).ok w):Ctr prog 89 [.pointer (some ⟨bu,0,none⟩)] w [] (fun v cs=>v= .pointer (some ⟨bm,0,none⟩)∧cs=[]):=by
 refine bL func89 rfl ntmps89 rfl (Inv.start w) ?_;refine eK ?_;refine dU (bM Zrf (Zv rfl)) (dL (by assumption) rfl) rfl ?_;refine Z_4 ?_;refine Zra ?_;exact⟨rfl,rfl⟩
theorem B2(bu bm bb:Nat)(w:World)(h:(B3 bu bm bb).ok w):Ctr prog 25 [.pointer (some ⟨bu,0,none⟩)] w [] (fun v cs=>v= .pointer (some ⟨bb,0,none⟩)∧cs=[]):=by
 refine bL func25 rfl ntmps25 rfl (Inv.start w) ?_;refine eK ?_;refine dU (bM Zrf (Zv rfl)) (dL (by assumption) rfl) rfl ?_;refine Z_4 ?_;refine Zra ?_;exact⟨rfl,rfl⟩
theorem Fh(bu bb:Nat)(L:gQ)(U:Mmu)(hT:U.t.length=16)(va:Nat)(hva:va≤4294967295)(w:World)(hi:Inv w (bK (uF bu bb L U)) (uF bu bb L U) w):Ctr prog 179 [.pointer (some ⟨bu,0,none⟩),.int .u32 va] w (uF bu bb L U) (fun v cs=>v= .tuple #[]∧cs=uF bu bb L ⟨U.m,sJ U.t va⟩):=by
 refine bL func179 rfl ntmps179 rfl hi ?_;refine Z_6 ?_;refine ZcM ([sF bb U.t]) (fun w hi hin=>Ft bb U.t hT va hva w hin) ?_;refine Zn (bQ (uF bu bb L ⟨U.m,sJ U.t va⟩) Zj ?_);refine fL (cs':=uF _ _ _ _) (.inr rfl) Zu rfl ?_;exact⟨rfl,rfl⟩
theorem B1(bu bb:Nat)(L:gQ)(U:Mmu)(hT:U.t.length=16)(w:World)(hi:Inv w (bK (uF bu bb L U)) (uF bu bb L U) w):Ctr prog 178 [.pointer (some ⟨bu,0,none⟩)] w (uF bu bb L U) (fun v cs=>v= .tuple #[]∧cs=uF bu bb L ⟨U.m,eE⟩):=by
 refine bL func178 rfl ntmps178 rfl hi ?_;refine Z_5 ?_;refine ZcM ([sF bb U.t]) (fun w hi hin=>Ci bb U.t hT w hin) ?_;refine Zn (bQ (uF bu bb L ⟨U.m,eE⟩) Zj ?_);refine fL (cs':=uF _ _ _ _) (.inr rfl) Zu rfl ?_;exact⟨rfl,rfl⟩
abbrev trC(b:Nat)(t:Tr):bJ:=row b t.cells 185
abbrev teC(b:Nat)(e:TE):bJ:=row b e.cells 123
theorem B6(bu bb:Nat)(L:gQ)(U:Mmu)(hT:U.t.length=16)(s:Sp)(hr:s.root≤4294967295)(va:Nat)(hva:va≤4294967295)(kind:Int)(w:World)(hi:Inv w (bK (uF bu bb L U)) (uF bu bb L U) w):
  Ctr prog 113 [.pointer (some ⟨bu,0,none⟩),s.v,.int .u32 va,.int .i64 kind] w (uF bu bb L U) (fun v cs=>v= .tuple #[.int .u32 (dh L.n U s va kind).1.1,(dh L.n U s va kind).1.2.v]∧cs=uF bu bb L (dh L.n U s va kind).2):=by
 obtain⟨fd,hfd⟩:=Zgn (qb U.t va kind s.Il);obtain⟨wd,hwd⟩:=Zgn (gR L.n U.m s.root va kind s.Il);have hwf:=BS L.n U.m s.root va hva kind s.Il;have HFD:=Fq bb U.t hT va hva kind s.Il;have HWD:=wdo_ok L U.m s.root va hr hva kind s.Il;unfold dh;rw[hfd]at HFD⊢;rw[hwd]at HWD hwf⊢;obtain⟨⟨te,tr⟩,M'⟩:=wd;simp only at HWD hwf⊢;refine bL func113 rfl ntmps113 rfl hi ?_;refine Z_2 ?_;refine ZO fun b5=>?_;refine ZA ?_;refine ZN fun b9=>?_
 refine eK ?_;refine ZW ?_ ?_<;>intro hc1
 ·rw[hc1];simp only[ac];refine Z_5 ?_;refine ZM ?_;refine Z_4 ?_;refine nc (cs':=[row _ _ _,exC _ _ _ _,row _ _ _]) (.inl rfl) Zu rfl rfl rfl Zh Zrf Zrf ?_;exact⟨rfl,rfl⟩
 rw[hc1];simp only[aa];refine Z_4 ?_;refine cj ⟨fun j=>List.elem j [],[]⟩ Zk ?_;refine ZE 0 ?_;refine ZE 1 ?_;refine ZFe 2 1 ?_;refine ZG 3 ?_;refine ZE 4 ?_;refine ZE 5 ?_;refine ZFe 6 1 ?_;refine ZG 7 ?_;refine cE 8 Zk ?_;refine ZT (fun w hi=>HFD w (hi.get Zh)) ?_;rintro _ _ ⟨_,⟨rfl,rfl⟩,rfl⟩;refine ZE 9 ?_;refine ZE 10 ?_;refine ZE 11 ?_;refine ZE 12 ?_;refine ZE 13 ?_;refine bO Zk ?_;refine Z_6 ?_;refine ZW ?_ ?_<;>intro hc4
 ·rw[hc4];simp only[ac];refine Z_5 ?_;refine ZM ?_;refine Z_4 ?_;refine nc (cs':=[row _ _ _,exC _ _ _ _,row _ _ _]) (.inl rfl) Zu rfl rfl rfl Zh Zrf Zrf ?_;exact⟨rfl,rfl⟩
 rw[hc4];simp only[aa];refine Z_2 ?_;refine de (fun q:Nat×Nat=>[(0,.pointer (some ⟨bu,0,none⟩)),(2,.int .u32 va),(9,.pointer (some ⟨b9,0,none⟩)),(12,.pointer (some ⟨q.1,0,none⟩)),(13,.pointer (some ⟨q.2,0,none⟩))]) (fun q=>[B3 bu L.bm bb,eH L M',sF bb U.t,trC b9 Tr.none,teC q.1 te,trC q.2 tr]) (fun _=>True) ?_ ?_
 ·refine cj ⟨fun j=>List.elem j [10,16,17],[]⟩ Zk ?_;refine ZE 0 ?_;refine ZE 1 ?_;refine ZFe 2 0 ?_;refine ZG 3 ?_;refine ZFe 4 2 ?_;refine ZG 5 ?_;refine ZE 6 ?_;refine ZE 7 ?_;refine ZFe 8 1 ?_;refine ZG 9 ?_;refine wa_3 10 14 15 Zk ?_ ?_ ?_
  ·refine ZcA ([eH L U.m]) (fun w hi hin=>HWD w hin) ?_;rintro _ _ ⟨_,⟨rfl,rfl⟩,rfl⟩;refine ZE 11 ?_;refine ZE 12 ?_;refine ZE 13 ?_;refine j4 14 15 Zk ?_ ?_
   ·refine ZP fun b12=>?_
    refine cE 15 Zk ?_;refine ZP fun b13=>?_
    refine cE 16 Zk ?_;refine dC rfl rfl (cq (vs:=te.cells) Zrf rfl rfl (iK rfl) Za (by exact rfl)) ZJ ?_;rintro _ _ ⟨rfl,rfl⟩;refine cE 17 Zk ?_;refine dC rfl rfl (cq (vs:=tr.cells) Zrf rfl rfl (iK rfl) Za (by exact rfl)) ZJ ?_;rintro _ _ ⟨rfl,rfl⟩;refine bO Zk ?_;refine cz ((b12,b13)) ?_ ?_ ?_
    ·trivial
    ·exact Zwk
    exact Zj
   refine ZP fun b13=>?_
   refine cE 14 Zk ?_;refine ZP fun b12=>?_
   refine cE 16 Zk ?_;refine dC rfl rfl (cq (vs:=te.cells) Zrf rfl rfl (iK rfl) Za (by exact rfl)) ZJ ?_;rintro _ _ ⟨rfl,rfl⟩;refine cE 17 Zk ?_;refine dC rfl rfl (cq (vs:=tr.cells) Zrf rfl rfl (iK rfl) Za (by exact rfl)) ZJ ?_;rintro _ _ ⟨rfl,rfl⟩;refine bO Zk ?_;refine cz ((b12,b13)) ?_ ?_ ?_
   ·trivial
   ·exact Zwk
   exact Zj
  ·refine ZP fun b12=>?_
   refine j4 10 15 Zk ?_ ?_
   ·refine ZcA ([eH L U.m]) (fun w hi hin=>HWD w hin) ?_;rintro _ _ ⟨_,⟨rfl,rfl⟩,rfl⟩;refine ZE 11 ?_;refine ZE 12 ?_;refine ZE 13 ?_;refine cE 15 Zk ?_;refine ZP fun b13=>?_
    refine cE 16 Zk ?_;refine dC rfl rfl (cq (vs:=te.cells) Zrf rfl rfl (iK rfl) Za (by exact rfl)) ZJ ?_;rintro _ _ ⟨rfl,rfl⟩;refine cE 17 Zk ?_;refine dC rfl rfl (cq (vs:=tr.cells) Zrf rfl rfl (iK rfl) Za (by exact rfl)) ZJ ?_;rintro _ _ ⟨rfl,rfl⟩;refine bO Zk ?_;refine cz ((b12,b13)) ?_ ?_ ?_
    ·trivial
    ·exact Zwk
    exact Zj
   refine ZP fun b13=>?_
   refine cE 10 Zk ?_;refine ZcA ([eH L U.m]) (fun w hi hin=>HWD w hin) ?_;rintro _ _ ⟨_,⟨rfl,rfl⟩,rfl⟩;refine ZE 11 ?_;refine ZE 12 ?_;refine ZE 13 ?_;refine cE 16 Zk ?_;refine dC rfl rfl (cq (vs:=te.cells) Zrf rfl rfl (iK rfl) Za (by exact rfl)) ZJ ?_;rintro _ _ ⟨rfl,rfl⟩;refine cE 17 Zk ?_;refine dC rfl rfl (cq (vs:=tr.cells) Zrf rfl rfl (iK rfl) Za (by exact rfl)) ZJ ?_;rintro _ _ ⟨rfl,rfl⟩;refine bO Zk ?_;refine cz ((b12,b13)) ?_ ?_ ?_
   ·trivial
   ·exact Zwk
   exact Zj
  refine ZP fun b13=>?_
  refine j4 10 14 Zk ?_ ?_
  ·refine ZcA ([eH L U.m]) (fun w hi hin=>HWD w hin) ?_;rintro _ _ ⟨_,⟨rfl,rfl⟩,rfl⟩;refine ZE 11 ?_;refine ZE 12 ?_;refine ZE 13 ?_;refine cE 14 Zk ?_;refine ZP fun b12=>?_
   refine cE 16 Zk ?_;refine dC rfl rfl (cq (vs:=te.cells) Zrf rfl rfl (iK rfl) Za (by exact rfl)) ZJ ?_;rintro _ _ ⟨rfl,rfl⟩;refine cE 17 Zk ?_;refine dC rfl rfl (cq (vs:=tr.cells) Zrf rfl rfl (iK rfl) Za (by exact rfl)) ZJ ?_;rintro _ _ ⟨rfl,rfl⟩;refine bO Zk ?_;refine cz ((b12,b13)) ?_ ?_ ?_
   ·trivial
   ·exact Zwk
   exact Zj
  refine ZP fun b12=>?_
  refine cE 10 Zk ?_;refine ZcA ([eH L U.m]) (fun w hi hin=>HWD w hin) ?_;rintro _ _ ⟨_,⟨rfl,rfl⟩,rfl⟩;refine ZE 11 ?_;refine ZE 12 ?_;refine ZE 13 ?_;refine cE 16 Zk ?_;refine dC rfl rfl (cq (vs:=te.cells) Zrf rfl rfl (iK rfl) Za (by exact rfl)) ZJ ?_;rintro _ _ ⟨rfl,rfl⟩;refine cE 17 Zk ?_;refine dC rfl rfl (cq (vs:=tr.cells) Zrf rfl rfl (iK rfl) Za (by exact rfl)) ZJ ?_;rintro _ _ ⟨rfl,rfl⟩;refine bO Zk ?_;refine cz ((b12,b13)) ?_ ?_ ?_
  ·trivial
  ·exact Zwk
  exact Zj
 rintro⟨b12,b13⟩ -;dsimp only;refine Z_8 ?_;refine ZW ?_ ?_<;>intro hc7
 ·rw[hc7];simp only[ac];refine Zs (cj ⟨fun j=>List.elem j [2],[]⟩ Zk ?_);refine ZI 0 ?_;refine ZE 1 ?_;refine cE 2 Zk ?_;refine ZR ?_;refine bO Zk ?_;refine Z_3 ?_;refine nc (cs':=[row _ _ _,exC _ _ _ _,row _ _ _]) (.inl rfl) Zu rfl rfl rfl Zh Zrf Zrf ?_;exact⟨rfl,rfl⟩
 rw[hc7];simp only[aa];refine Z_3 ?_;refine cj ⟨fun j=>List.elem j [5],[]⟩ Zk ?_;refine ZE 0 ?_;refine ZE 1 ?_;refine ZFe 2 1 ?_;refine ZG 3 ?_;refine ZI 4 ?_;refine cE 5 Zk ?_;refine ZcA ([sF bb U.t]) (fun w hi hin=>Fs bb U.t hT te hwf w hin) ?_;rintro _ _ ⟨_,⟨rfl,rfl⟩,rfl⟩;refine bO Zk ?_;refine Z_2 ?_;refine cj ⟨fun j=>List.elem j [8],[]⟩ Zk ?_;refine ZFe 0 2 ?_;refine ZG 1 ?_;refine cR 2 rfl Zk Zk Zk (i3 Zv0 Zv0 rfl) rfl ?_;refine ZE 3 ?_;refine cR 4 rfl Zk Zk Zk (gt (Zv rfl) (Zv rfl) (by omega) (show _=((va%64:Nat):Int)from by rw[aD (by omega)];omega)) rfl ?_;refine cR 5 rfl Zk Zk Zk (cF Zv0 Zv0 rfl) rfl ?_;refine ZI 6 ?_;refine ZE 7 ?_;refine cE 8 Zk ?_;refine ZR ?_;refine bO Zk ?_;refine Z_2 ?_;refine bQ [B3 bu L.bm bb,eH L M',sF bb (Ck U.t te),trC b9 tr] Zj ?_;refine nc (cs':=[row _ _ _,exC _ _ _ _,row _ _ _]) (.inl rfl) Zu rfl rfl rfl Zh Zrf Zrf ?_;exact⟨rfl,rfl⟩
end Go.Proofs.YtomjgmbccamgiaaGreatDoor
namespace Go.Ink
open Go.RowKit
theorem rx(pfn:Int)(va:Nat):u32 (pQ pfn va)∧pQ pfn va%64=((va%64:Nat):Int):=by
 unfold pQ;rw[aE,aE];exact⟨⟨by omega,by omega⟩,by omega⟩
theorem uj(n:Nat)(U:Mmu)(s:Sp)(va:Nat)(hva:va≤4294967295)(kind:Int):u32 (dh n U s va kind).1.1∧((dh n U s va kind).1.2.Im=0→(dh n U s va kind).1.1%64=((va%64:Nat):Int)):=by
 unfold dh;cases(!s.It)with
 |true=>exact⟨⟨by show(0:Int)≤(va:Int);omega,by show(va:Int)≤_;omega⟩,fun _=>by show(va:Int)%64=_;omega⟩
 |false=>
  simp only[aa];cases hf:(qb U.t va kind s.Il).2 with
  |true=>
   simp only[ac];unfold qb at hf⊢;cases hn:nh (xx U.t va) va (asked kind s.Il)with
   |true=>rw[hn]at hf;cases hf
   |false=>
    simp only[aa];have:=rx (xx U.t va).pfn va;exact⟨this.1,fun _=>this.2⟩
  |false=>
   simp only[aa];cases hc:((gR n U.m s.root va kind s.Il).1.2.Im !=0)with
   |true=>
    simp only[ac];refine⟨⟨by decide,by decide⟩,fun h=>?_⟩;rw[h]at hc;cases hc
   |false=>
    simp only[aa];have:=rx (gR n U.m s.root va kind s.Il).1.1.pfn va;exact⟨this.1,fun _=>this.2⟩
structure ER(n:Nat)(va:Nat)(p:Int):Prop where
 u:u32 p
 m:p%64=((va%64:Nat):Int)
 r:p<((n*64:Nat):Int)∨qf p=true
theorem je(n:Nat)(U:Mmu)(s:Sp)(va:Nat)(hva:va≤4294967295)(kind:Int):u32 (cW n U s va kind).1.1∧((cW n U s va kind).1.2.Im=0→ER n va (cW n U s va kind).1.1):=by
 obtain⟨h1,h2⟩:=uj n U s va hva kind;have u0:u32 0:=⟨by decide,by decide⟩;unfold cW;cases hf:(fault kind==0)with
 |true=>exact⟨u0,fun h=>by cases h⟩
 |false=>
  simp only[aa];cases hc:((dh n U s va kind).1.2.Im !=0)with
  |true=>
   simp only[ac];refine⟨u0,fun h=>?_⟩;rw[h]at hc;cases hc
  |false=>
   simp only[aa];cases hr:(decide ((dh n U s va kind).1.1<((n*64:Nat):Int))||((kind !=1)&&qf (dh n U s va kind).1.1))with
   |false=>exact⟨u0,fun h=>by cases h⟩
   |true=>
    simp only[ac];refine⟨h1,fun h=>⟨h1,h2 h,?_⟩⟩;simp only[Bool.or_eq_true,ap,aB]at hr;rcases hr with hr|hr
    ·exact .inl hr
    exact .inr hr.2
def ek(va:Nat):Nat:=(va - va%64+64)%4294967296
theorem kZ(va:Nat):ek va≤4294967295:=by unfold ek;omega
theorem wh(va:Nat):ek va%64=0:=by unfold ek;omega
def kz(a b:Int)(va j:Nat):Int:=bif decide (j<64 - va%64)then IntKind.u32.wrap (a+(j:Int))else IntKind.u32.wrap (b+((j - (64 - va%64):Nat):Int))
def kT(a b:Int)(va k:Nat):List Int:=(List.range k).map (kz a b va)
theorem mz(a b:Int)(va k:Nat):kT a b va (k+1)=kT a b va k++[kz a b va k]:=by simp[kT,List.range_succ]
theorem vI(a b:Int)(va k:Nat):(kT a b va k).length=k:=by simp[kT]
def fQ(a b:Int)(va k:Nat)(t:Tr)(U:Mmu):(List Int×Tr)×Mmu:=
 bif qf a then(([],⟨10,va⟩),U)else bif(decide (((64 - va%64:Nat):Int)<(k:Int))&&qf b)then(([],⟨10,ek va⟩),U)else((kT a b va k,t),U)
def AB(n:Nat)(s:Sp)(va k:Nat)(kind:Int)(p1:(Int×Tr)×Mmu):(List Int×Tr)×Mmu:=
 bif(cW n p1.2 s (ek va) kind).1.2.Im !=0 then(([],(cW n p1.2 s (ek va) kind).1.2),(cW n p1.2 s (ek va) kind).2)
 else fQ p1.1.1 (cW n p1.2 s (ek va) kind).1.1 va k (cW n p1.2 s (ek va) kind).1.2 (cW n p1.2 s (ek va) kind).2
def AC(n:Nat)(s:Sp)(va k:Nat)(kind:Int)(p1:(Int×Tr)×Mmu):(List Int×Tr)×Mmu:=
 bif p1.1.2.Im !=0 then(([],p1.1.2),p1.2)else
 bif decide (((64 - va%64:Nat):Int)<(k:Int))then AB n s va k kind p1 else fQ p1.1.1 0 va k p1.1.2 p1.2
def eX(n:Nat)(U:Mmu)(s:Sp)(va k:Nat)(kind:Int):(List Int×Tr)×Mmu:=AC n s va k kind (cW n U s va kind)
theorem yN{n:Nat}{a b:Int}{va k:Nat}(hn:n≤64)(ha:0≤a)(ha1:a<((n*64:Nat):Int))(hm:a%64=((va%64:Nat):Int))(hb:((64 - va%64:Nat):Int)<(k:Int)→0≤b∧b<((n*64:Nat):Int)∧b%64=0)(hk:k≤4):∀x,x∈kT a b va k→0≤x∧x<((n*64:Nat):Int):=by
 intro x hx;unfold kT at hx;obtain⟨j,hj,rfl⟩:=bh.1 hx;rw[List.mem_range]at hj;unfold kz;cases hc:decide (j<64 - va%64)with
 |true=>
  simp only[ac];have:=of_decide_eq_true hc;rw[aE];omega
 |false=>
  simp only[aa];have h1:=of_decide_eq_false hc;obtain⟨b0,b1,b2⟩:=hb (by omega);rw[aE];omega
theorem yo{a:Int}(h:qf a=false){n:Nat}{va:Nat}(hp:ER n va a):a<((n*64:Nat):Int):=by
 rcases hp.r with h1|h1
 ·exact h1
 rw[h]at h1;cases h1
theorem vH{n:Nat}{U:Mmu}{s:Sp}{va k:Nat}(hn:n≤64)(hva:va≤4294967295){kind:Int}(hk:k≤4):∀x,x∈(eX n U s va k kind).1.1→0≤x∧x<((n*64:Nat):Int):=by
 obtain⟨_,h1⟩:=je n U s va hva kind;unfold eX AC;cases hc:((cW n U s va kind).1.2.Im !=0)with
 |true=>intro x hx;cases hx
 |false=>
  simp only[aa];have p1:=h1 (by simpa using hc);cases hl:decide (((64 - va%64:Nat):Int)<(k:Int))with
  |true=>
   simp only[ac];unfold AB;obtain⟨_,h2⟩:=je n (cW n U s va kind).2 s (ek va) (kZ va) kind;cases hc2:((cW n (cW n U s va kind).2 s (ek va) kind).1.2.Im !=0)with
   |true=>intro x hx;cases hx
   |false=>
    simp only[aa];have p2:=h2 (by simpa using hc2);unfold fQ;cases d1:qf (cW n U s va kind).1.1 with
    |true=>intro x hx;cases hx
    |false=>
     simp only[aa];rw[hl];simp only[Bool.true_and];cases d2:qf (cW n (cW n U s va kind).2 s (ek va) kind).1.1 with
     |true=>intro x hx;cases hx
     |false=>
      simp only[aa];exact yN hn p1.u.1 (yo d1 p1) p1.m (fun _=>⟨p2.u.1,yo d2 p2,by have h3:=p2.m;rw[wh]at h3;exact h3⟩) hk
  |false=>
   simp only[aa];unfold fQ;cases d1:qf (cW n U s va kind).1.1 with
   |true=>intro x hx;cases hx
   |false=>
    simp only[aa];rw[hl];simp only[Bool.false_and,aa];exact yN hn p1.u.1 (yo d1 p1) p1.m (fun h=>absurd h (of_decide_eq_false hl)) hk
theorem oS{n:Nat}{U:Mmu}{s:Sp}{va k:Nat}{kind:Int}:(eX n U s va k kind).1.1.length≤k:=by
 unfold eX AC AB fQ
 repeat' (first|(simp only[ao];omega)|(rw[vI];exact aQ _)|(rw[Bool.cond_eq_ite];split))
def gl(d:List Int):List Int→Int
 |[]=>0
 |a::l=>gB d a.toNat+256*gl d l
theorem lP{d:List Int}(h:u8s d):∀l:List Int,0≤gl d l∧gl d l<256^l.length
 |[]=>by simp[gl]
 |a::l=>by
  have h1:=jN h a.toNat;have h2:=lP h l;simp only[gl,ai,Int.pow_succ];omega
theorem uN{d:List Int}(h:u8s d){l:List Int}(hl:l.length≤4){j:Nat}(hj:j<l.length):bits .or .u32 (IntKind.u32.wrap (gl d (l.drop (j+1))*2^(min (8:Int).toNat IntKind.u32.bits))) (gB d (l[j]'hj).toNat)=gl d (l.drop j):=by
 have h1:=lP h (l.drop (j+1));have h2:=jN h (l[j]'hj).toNat;have h3:(l.drop (j+1)).length≤3:=by rw[bz];omega
 rw[show l.drop j=l[j]'hj::l.drop (j+1)from List.drop_eq_getElem_cons hj];simp only[gl];generalize gl d (l.drop (j+1))=v at h1;generalize (l.drop (j+1)).length=m at h1 h3;have hv:0≤v∧v<16777216:=by
  obtain rfl|rfl|rfl|rfl:m=0∨m=1∨m=2∨m=3:=by omega
  all_goals (simp at h1;omega)
 have e1:(2:Int)^(min (8:Int).toNat IntKind.u32.bits)=256:=rfl;rw[e1,u32_wrap_id _ (by omega) (by omega),bits_join .u32 32 (by decide) wraps_u32 8 (v*256) _ (by omega) (by omega) (by omega) (by omega) (by omega) (by omega)];omega
def IR(M:Mem)(l:List Int)(v:Int):Nat→Mem
 |0=>M
 |k+1=>(IR M l v k).put ((l.getD k 0).toNat) (qR v k)
def nZ(n:Nat)(U:Mmu)(s:Sp)(va k:Nat):(Int×Tr)×Mmu:=
 ((gl (eX n U s va k 2).2.m.data (eX n U s va k 2).1.1,(eX n U s va k 2).1.2),(eX n U s va k 2).2)
def m4(n:Nat)(U:Mmu)(s:Sp)(va k:Nat)(v:Int):Tr×Mmu:=
 ((eX n U s va k 3).1.2,⟨IR (eX n U s va k 3).2.m (eX n U s va k 3).1.1 v (eX n U s va k 3).1.1.length,(eX n U s va k 3).2.t⟩)
theorem xt(v:Int){k:Nat}(hk:k<4):IntKind.u8.wrap (v.fdiv (2^(min (IntKind.i64.wrap (8*(k:Int))).toNat IntKind.u32.bits)))=qR v k:=by
 rw[←vw v hk];obtain rfl|rfl|rfl|rfl:k=0∨k=1∨k=2∨k=3:=by omega
 all_goals rfl
end Go.Ink
namespace Go.Proofs.YtomjgmbccamgiaaGreatDoor
open Go.RowKit Go.Ink Go.Proofs.Tryz
attribute [local irreducible] OpY bW
theorem nG(bu bb:Nat)(L:gQ)(U:Mmu)(hT:U.t.length=16)(s:Sp)(hr:s.root≤4294967295)(va:Nat)(hva:va≤4294967295)(kind:Int)(w:World)(hi:Inv w (bK (uF bu bb L U)) (uF bu bb L U) w):
  Ctr prog 88 [.pointer (some ⟨bu,0,none⟩),s.v,.int .u32 va,.int .i64 kind] w (uF bu bb L U) (fun v cs=>v= .tuple #[.int .u32 (cW L.n U s va kind).1.1,(cW L.n U s va kind).1.2.v]∧cs=uF bu bb L (cW L.n U s va kind).2):=by
 obtain⟨fk,hfk⟩:=Zgn (fault kind);obtain⟨td,htd⟩:=Zgn (dh L.n U s va kind);have HF:=zz kind;have HT:=B6 bu bb L U hT s hr va hva kind;unfold cW;rw[hfk]at HF⊢;rw[htd]at HT⊢;obtain⟨⟨p,tr⟩,U'⟩:=td;simp only at HT⊢;refine bL func88 rfl ntmps88 rfl hi ?_;refine Z_2 ?_;refine ZO fun b5=>?_;refine ZA ?_;refine ZN fun b9=>?_
 refine Z_6 ?_;refine ZN fun b10=>?_
 refine ZM ?_;refine Z_6 ?_;refine ZSe (fun w hi=>HF w) ?_;refine Z_3 ?_;refine ZW ?_ ?_<;>intro hc2
 ·rw[hc2];simp only[ac];refine Zs (cj ⟨fun j=>List.elem j [2],[]⟩ Zk ?_);refine ZI 0 ?_;refine ZE 1 ?_;refine cE 2 Zk ?_;refine ZR ?_;refine bO Zk ?_;refine Z_3 ?_;refine nc (cs':=[row _ _ _,exC _ _ _ _,row _ _ _]) (.inl rfl) Zu rfl rfl rfl Zh Zrf Zrf ?_;exact⟨rfl,rfl⟩
 rw[hc2];simp only[aa];refine Z_8 ?_;refine ZcM (uF bu bb L U) (fun w hi hin=>HT w hin) ?_;refine Z_3 ?_;refine ZN fun b12=>?_
 refine ZA ?_;refine dz (cq (vs:=tr.cells) Zrf rfl rfl (iK rfl) Za (by exact rfl)) ?_;rintro _ _ ⟨rfl,rfl⟩;refine eK ?_;refine ZW ?_ ?_<;>intro hc5
 ·rw[hc5];simp only[ac];refine Zs (cj ⟨fun j=>List.elem j [2],[]⟩ Zk ?_);refine ZI 0 ?_;refine ZE 1 ?_;refine cE 2 Zk ?_;refine ZR ?_;refine bO Zk ?_;refine Z_3 ?_;refine nc (cs':=[row _ _ _,exC _ _ _ _,row _ _ _]) (.inl rfl) Zu rfl rfl rfl Zh Zrf Zrf ?_;exact⟨rfl,rfl⟩
 rw[hc5];simp only[aa];refine eK ?_;refine ZSe (fun w hi=>mA L U'.m w (hi.get Zh)) ?_;refine Z_6 ?_;refine dX (fE rfl rfl) (.cons (dc rfl) .nil) (fun _ _=>rfl) (fun hg w hi=>sd p w) rfl ?_;refine Z_4 ?_;refine ZW ?_ ?_<;>intro hc7
 ·rw[hc7];simp only[ac];refine Zs (cj ⟨fun j=>List.elem j [3],[]⟩ Zk ?_);refine ZE 0 ?_;refine ZI 1 ?_;refine ZE 2 ?_;refine cE 3 Zk ?_;refine ZR ?_;refine bO Zk ?_;refine Z_3 ?_;refine nc (cs':=[row _ _ _,exC _ _ _ _,row _ _ _]) (.inl rfl) Zu rfl rfl rfl Zh Zrf Zrf ?_;exact⟨rfl,rfl⟩
 rw[hc7];simp only[aa];refine Z_3 ?_;refine cj ⟨fun j=>List.elem j [2],[]⟩ Zk ?_;refine ZI 0 ?_;refine ZE 1 ?_;refine cE 2 Zk ?_;refine ZR ?_;refine bO Zk ?_;refine Z_2 ?_;refine nc (cs':=[row _ _ _,exC _ _ _ _,row _ _ _]) (.inl rfl) Zu rfl rfl rfl Zh Zrf Zrf ?_;exact⟨rfl,rfl⟩
theorem Ct(bu bb:Nat)(L:gQ)(U:Mmu)(hT:U.t.length=16)(s:Sp)(hr:s.root≤4294967295)(va k:Nat)(hva:va≤4294967295)(hk1:1≤k)(hk4:k≤4)(kind:Int)(w:World)(hi:Inv w (bK (uF bu bb L U)) (uF bu bb L U) w):
  Ctr prog 248 [.pointer (some ⟨bu,0,none⟩),s.v,.int .u32 va,.int .i64 k,.int .i64 kind] w (uF bu bb L U) (fun v cs=>∃A c,v= .tuple #[.slice A (eX L.n U s va k kind).1.1.length c,(eX L.n U s va k kind).1.2.v]∧cs=uF bu bb L (eX L.n U s va k kind).2++[sl .u32 34 A (eX L.n U s va k kind).1.1.length c (eX L.n U s va k kind).1.1]):=by
 have HP1:=nG bu bb L U hT s hr va hva kind;have hl1:=ru L.n U s va kind;obtain⟨p1,hp1⟩:=Zgn (cW L.n U s va kind);unfold eX;rw[hp1]at HP1 hl1⊢;rw[hT]at hl1;have HP2:=nG bu bb L p1.2 hl1 s hr (ek va) (kZ va) kind;obtain⟨p2,hp2⟩:=Zgn (cW L.n p1.2 s (ek va) kind);unfold AC AB;rw[hp2]at HP2⊢;obtain⟨⟨a1,tr1⟩,U1⟩:=p1;obtain⟨⟨a2,tr2⟩,U2⟩:=p2;simp only at HP1 HP2⊢;refine bL func248 rfl ntmps248 rfl hi ?_;refine Z_2 ?_;refine ZO fun b6=>?_;refine ZA ?_;refine ZN fun b11=>?_
 refine jW ?_;refine bY rfl ((by rw[aF (show¬(k:Int)<1 by omega),aF (show¬(4:Int)<k by omega)];rfl)) ?_;refine Z_8 ?_;refine ZcM (uF bu bb L U) (fun w hi hin=>HP1 w hin) ?_;refine Z_3 ?_;refine ZN fun b13=>?_
 refine ZA ?_;refine dz (cq (vs:=tr1.cells) Zrf rfl rfl (iK rfl) Za (by exact rfl)) ?_;rintro _ _ ⟨rfl,rfl⟩;refine eK ?_;refine ZW ?_ ?_<;>intro hc4
 ·rw[hc4];simp only[ac];refine Zs (cj ⟨fun j=>List.elem j [2],[]⟩ Zk ?_);refine BU 34 1 ?_;refine ZI 0 ?_;refine ZE 1 ?_;refine cE 2 Zk ?_;refine ZR ?_;refine bO Zk ?_;refine Z_3 ?_;refine nc (cs':=[row _ _ _,exC _ _ _ _,row _ _ _,slv _ _ _ _ _ _]) (.inl rfl) Zu rfl rfl rfl Zh Zrf Zrf ?_;exact⟨_,_,rfl,rfl⟩
 rw[hc4];simp only[aa];refine Z_5 ?_;refine Zy (gt (Zv rfl) (Zv rfl) (by omega) (show _=((va%64:Nat):Int)from by rw[aD (by omega)];omega)) ?_;refine Zy (cu rfl rfl Zv0 Zl) ?_;refine Zy (eP (Zv rfl) (Zv rfl) (show IntKind.i64.wrap _=((64 - va%64:Nat):Int) by rw[IntWalk.i64_in _ ⟨by omega,by omega⟩];omega)) ?_;refine Z_7 ?_;refine Zy (gt (Zv rfl) (Zv rfl) (by omega) (show _=((va%64:Nat):Int)from by rw[aD (by omega)];omega)) ?_;refine Zy (eP Zv0 Zv0 rfl) ?_;refine Zy (cF (Zv rfl) (Zv rfl) (show IntKind.u32.wrap (IntKind.u32.wrap _+64)=((ek va:Nat):Int) by rw[aE,aE];unfold ek;omega)) ?_;refine Z_4 ?_;refine de (fun q:Int×Mmu×Tr=>[(2,.int .u32 va),(3,.int .i64 k),(11,.pointer (some ⟨b11,0,none⟩)),(12,.int .u32 a1),(13,.pointer (some ⟨b13,0,none⟩)),(14,.int .i64 ((64 - va%64:Nat):Int)),(15,.int .u32 (ek va:Nat)),(16,.int .u32 q.1)]) (fun q=>uF bu bb L q.2.1++[trC b11 Tr.none,trC b13 q.2.2]) (fun q=>(bif decide (((64 - va%64:Nat):Int)<(k:Int))then bif tr2.Im !=0 then((([]:List Int),tr2),U2)else fQ a1 a2 va k tr2 U2 else fQ a1 0 va k tr1 U1)=fQ a1 q.1 va k q.2.2 q.2.1) ?_ ?_
 ·refine Z_7 ?_;refine ZW ?_ ?_<;>intro hc8
  ·have hsm:(bif decide (((64 - va%64:Nat):Int)<(k:Int))then bif tr2.Im !=0 then((([]:List Int),tr2),U2)else fQ a1 a2 va k tr2 U2 else fQ a1 0 va k tr1 U1)=bif tr2.Im !=0 then((([]:List Int),tr2),U2)else fQ a1 a2 va k tr2 U2:=by rw[hc8];rfl
   refine Z_6 ?_;refine ZcM (uF bu bb L U1) (fun w hi hin=>HP2 w hin) ?_;refine Z_4 ?_;refine dz (cq (vs:=tr2.cells) Zrf rfl rfl (iK rfl) Za (by exact rfl)) ?_;rintro _ _ ⟨rfl,rfl⟩;refine Z_9 ?_;refine ZW ?_ ?_<;>intro hc10
   ·rw[hsm,hc10];simp only[ac];refine Zs (cj ⟨fun j=>List.elem j [2],[]⟩ Zk ?_);refine BU 34 1 ?_;refine ZI 0 ?_;refine ZE 1 ?_;refine cE 2 Zk ?_;refine ZR ?_;refine bO Zk ?_;refine Z_3 ?_;refine nc (cs':=[row _ _ _,exC _ _ _ _,row _ _ _,slv _ _ _ _ _ _]) (.inl rfl) Zu rfl rfl rfl Zh Zrf Zrf ?_;exact⟨_,_,rfl,rfl⟩
   refine Zc ?_;refine cz ((a2,U2,tr2)) ?_ ?_ ?_
   ·exact hsm.trans (by rw[hc10];rfl)
   ·exact Zwk
   exact Zj
  have hsm:(bif decide (((64 - va%64:Nat):Int)<(k:Int))then bif tr2.Im !=0 then((([]:List Int),tr2),U2)else fQ a1 a2 va k tr2 U2 else fQ a1 0 va k tr1 U1)=fQ a1 0 va k tr1 U1:=by rw[hc8];rfl
  refine Zc ?_;refine cz ((0,U1,tr1)) ?_ ?_ ?_
  ·exact hsm
  ·exact Zwk
  exact Zj
 rintro⟨a2',U',tr'⟩ hq;dsimp only at hq;rw[hq];dsimp only;unfold fQ;refine Z_5 ?_;refine ZSe (fun w hi=>sd a1 w) ?_;refine Z_3 ?_;refine ZW ?_ ?_<;>intro hc12
 ·rw[hc12];simp only[ac];refine Z_2 ?_;refine dB 34 1 ?_;refine Z_3 ?_;refine ZM ?_;refine Z_5 ?_;refine nc (cs':=[row _ _ _,exC _ _ _ _,row _ _ _,slv _ _ _ _ _ _]) (.inl rfl) Zu rfl rfl rfl Zh Zrf Zrf ?_;exact⟨_,_,rfl,rfl⟩
 rw[hc12];simp only[aa];refine Z_7 ?_;refine dX (bP rfl rfl) (.cons (dc rfl) .nil) (fun _ _=>rfl) (fun hg w hi=>sd a2' w) rfl ?_;refine Z_4 ?_;refine ZW ?_ ?_<;>intro hc14
 ·rw[hc14];simp only[ac];refine Z_2 ?_;refine dB 34 1 ?_;refine Z_3 ?_;refine ZM ?_;refine Z_5 ?_;refine nc (cs':=[row _ _ _,exC _ _ _ _,row _ _ _,slv _ _ _ _ _ _]) (.inl rfl) Zu rfl rfl rfl Zh Zrf Zrf ?_;exact⟨_,_,rfl,rfl⟩
 rw[hc14];simp only[aa];refine Z_5 ?_;refine dB 34 1 ?_;refine eo ?_;refine cJ (fun q:Nat×Option Addr×Nat=>[(11,.pointer (some ⟨b11,0,none⟩)),(12,.int .u32 a1),(13,.pointer (some ⟨b13,0,none⟩)),(14,.int .i64 ((64 - va%64:Nat):Int)),(16,.int .u32 a2'),(17,.slice q.2.1 (kT a1 a2' va q.1).length q.2.2),(78,.int .i64 k),(79,.int .i64 (q.1:Int))]) (fun q=>uF bu bb L U'++[trC b11 Tr.none,trC b13 tr',sl .u32 34 q.2.1 (kT a1 a2' va q.1).length q.2.2 (kT a1 a2' va q.1)]) (fun q=>q.1≤k) (fun q=>k - q.1) ((0,none,0)) ?_ ?_ ?_ ?_
 ·exact aw _
 ·exact Zwk
 ·exact Zu
 rintro⟨j,A1,c1⟩ hj;simp only at hj;dsimp only;refine Z_6 ?_;refine ZW ?_ ?_<;>intro hc18
 ·simp only[ap]at hc18;have hle:=vI a1 a2' va j;refine vo ?_;refine ZW ?_ ?_<;>intro hc20
  ·simp only[ap]at hc20;have he:kz a1 a2' va j=IntKind.u32.wrap (a1+(j:Int)):=by(unfold kz;rw[aG (by omega)];rfl)
   refine Z_4 ?_;refine Zy (cu rfl rfl Zv0 rfl) ?_;refine Zy (cF (Zv rfl) (Zv rfl) (show IntKind.u32.wrap (a1+IntKind.u32.wrap (j:Int))=kz a1 a2' va j by rw[he,u32_wrap_id (j:Int) (by omega) (by omega)])) ?_;refine dM (cm rfl rfl Zrf Zrf rfl rfl) rfl ?_;rintro _ _ ⟨b90,rfl,rfl⟩;refine dM (cM (e:=34) (sz:=1) (bytes:=4) rfl rfl Za rfl rfl (fun w hi=>hi.rd (show Has _ (slv 34 1 (some ⟨b90,0,none⟩) 1 1 [.int .u32 (kz a1 a2' va j)])from Zh)) (iK rfl) (by simp only[maxLen];omega) (by omega)) rfl ?_;rintro _ _ ⟨A2,c2,rfl,rfl⟩;rw[show(kT a1 a2' va j).length+1=(kT a1 a2' va (j+1)).length by(rw[mz];simp),show ints .u32 (kT a1 a2' va j)++[Value.int .u32 (kz a1 a2' va j)]=ints .u32 (kT a1 a2' va (j+1)) by(rw[mz];exact cD _ [_])];refine Z_5 ?_;refine Zy (cF Zv0 Zv0 Zl) ?_;refine Z_2 ?_;refine eh ((j+1,A2,c2)) ?_ ?_ ?_
   ·exact⟨by show j+1≤k;omega,by show k - (j+1)<k - j;omega⟩
   ·exact Zwk
   exact Zu
  simp only[aj]at hc20;have he:kz a1 a2' va j=IntKind.u32.wrap (a2'+((j - (64 - va%64):Nat):Int)):=by(unfold kz;rw[aF (by omega)];rfl)
  refine Z_5 ?_;refine Zy (eP (Zv rfl) (Zv rfl) (show IntKind.i64.wrap ((j:Int) - ((64 - va%64:Nat):Int))=((j - (64 - va%64):Nat):Int) by rw[IntWalk.i64_in _ ⟨by omega,by omega⟩];omega)) ?_;refine Zy (cu rfl rfl Zv0 rfl) ?_;refine Zy (cF (Zv rfl) (Zv rfl) (show IntKind.u32.wrap (a2'+IntKind.u32.wrap ((j - (64 - va%64):Nat):Int))=kz a1 a2' va j by rw[he,u32_wrap_id (((j - (64 - va%64):Nat):Int)) (by omega) (by omega)])) ?_;refine dM (cm rfl rfl Zrf Zrf rfl rfl) rfl ?_;rintro _ _ ⟨b99,rfl,rfl⟩;refine dM (cM (e:=34) (sz:=1) (bytes:=4) rfl rfl Za rfl rfl (fun w hi=>hi.rd (show Has _ (slv 34 1 (some ⟨b99,0,none⟩) 1 1 [.int .u32 (kz a1 a2' va j)])from Zh)) (iK rfl) (by simp only[maxLen];omega) (by omega)) rfl ?_;rintro _ _ ⟨A2,c2,rfl,rfl⟩;rw[show(kT a1 a2' va j).length+1=(kT a1 a2' va (j+1)).length by(rw[mz];simp),show ints .u32 (kT a1 a2' va j)++[Value.int .u32 (kz a1 a2' va j)]=ints .u32 (kT a1 a2' va (j+1)) by(rw[mz];exact cD _ [_])];refine Z_5 ?_;refine Zy (cF Zv0 Zv0 Zl) ?_;refine Z_2 ?_;refine eh ((j+1,A2,c2)) ?_ ?_ ?_
  ·exact⟨by show j+1≤k;omega,by show k - (j+1)<k - j;omega⟩
  ·exact Zwk
  exact Zu
 simp only[aj]at hc18;obtain rfl:j=k:=by omega
 refine Z_6 ?_;refine cj ⟨fun j=>List.elem j [3],[]⟩ Zk ?_;refine ZE 0 ?_;refine ZI 1 ?_;refine ZE 2 ?_;refine cE 3 Zk ?_;refine ZR ?_;refine bO Zk ?_;refine Z_2 ?_;refine nc (cs':=[row _ _ _,exC _ _ _ _,row _ _ _,slv _ _ _ _ _ _]) (.inl rfl) Zu rfl rfl rfl Zh Zrf Zrf ?_;exact⟨_,_,rfl,rfl⟩
theorem Fg(bu bb:Nat)(L:gQ)(U:Mmu)(hT:U.t.length=16)(s:Sp)(hr:s.root≤4294967295)(va k:Nat)(hva:va≤4294967295)(hk1:1≤k)(hk4:k≤4)(w:World)(hi:Inv w (bK (uF bu bb L U)) (uF bu bb L U) w):
  Ctr prog 223 [.pointer (some ⟨bu,0,none⟩),s.v,.int .u32 va,.int .i64 k] w (uF bu bb L U) (fun v cs=>v= .tuple #[.int .u32 (nZ L.n U s va k).1.1,(nZ L.n U s va k).1.2.v]∧cs=uF bu bb L (nZ L.n U s va k).2):=by
 obtain⟨n1,n64,_⟩:=lr (hi.ok (eH L U.m) (by simp));have HS:=Ct bu bb L U hT s hr va k hva hk1 hk4 2;have hin0:=vH (n:=L.n) (U:=U) (s:=s) (va:=va) (k:=k) n64 hva (kind:=2) hk4;have hlen0:=oS (n:=L.n) (U:=U) (s:=s) (va:=va) (k:=k) (kind:=2);unfold nZ;obtain⟨sp,hsp⟩:=Zgn (eX L.n U s va k 2);rw[hsp]at HS hin0 hlen0⊢;obtain⟨⟨l,tr⟩,U'⟩:=sp;simp only at HS hin0 hlen0⊢;refine bL func223 rfl ntmps223 rfl hi ?_;refine Z_2 ?_;refine ZO fun b5=>?_;refine ZA ?_;refine ZN fun b9=>?_
 refine Z_8 ?_;refine ZcL (uF bu bb L U) (fun w hi hin=>HS w hin) ?_;rintro _ _ ⟨_,⟨A1,c1,rfl,rfl⟩,rfl⟩;refine Z_3 ?_;refine ZN fun b11=>?_
 refine ZA ?_;refine dz (cq (vs:=tr.cells) Zrf rfl rfl (iK rfl) Za (by exact rfl)) ?_;rintro _ _ ⟨rfl,rfl⟩;refine Z_4 ?_;refine jC (fun w hi=>lr (hi.get (show Has _ (eH L U'.m)from Zh))) (fun hmm=>?_);obtain⟨_,_,hdl,hdb,_⟩:=hmm;refine Z_6 ?_;have e0:gl U'.m.data (l.drop l.length)=0:=by(rw[List.drop_length];rfl)
 refine Z_2 ?_;refine Zy (eP Zv0 Zv0 Zl) ?_;refine Z_4 ?_;refine cJ (fun j:Nat=>[(0,.pointer (some ⟨bu,0,none⟩)),(9,.pointer (some ⟨b9,0,none⟩)),(10,.slice A1 l.length c1),(11,.pointer (some ⟨b11,0,none⟩)),(12,.int .u32 (gl U'.m.data (l.drop j))),(13,.int .i64 ((j:Int) - 1))]) (fun _=>uF bu bb L U'++[sl .u32 34 A1 l.length c1 l,trC b9 Tr.none,trC b11 tr]) (fun j=>j≤l.length) (fun j=>j) (l.length) ?_ ?_ ?_ ?_
 ·exact aQ _
 ·exact Zwk
 ·exact Zu
 rintro j hj;refine Z_7 ?_;refine ZW ?_ ?_<;>intro hc4
 ·simp only[ap]at hc4;obtain⟨i,rfl⟩:∃i,j=i+1:=⟨j - 1,by omega⟩;have hil:i<l.length:=by omega
  have hrange:=hin0 _ (List.getElem_mem hil);refine BR (fun w hi=>gj (hi.get (show Has _ (sl .u32 34 A1 l.length c1 l)from Zh)) (by omega)) ?_;rintro⟨ba,rfl⟩;obtain⟨an,han⟩:=ar hrange.1;refine Z_5 ?_;refine cj ⟨fun j=>List.elem j [],[]⟩ Zk ?_;refine ZE 0 ?_;refine ZE 1 ?_;refine ZFe 2 0 ?_;refine ZG 3 ?_;refine ZE 4 ?_;refine ZE 5 ?_;refine cR 6 rfl Zk Zk Zk (cI (j:=i) (sz:=1) (r:=i) rfl Zrf (Zv rfl) (Zv rfl) (fun _=>by omega) (fun _=>by omega) (by omega)) rfl ?_;refine eQ 7 rfl Zk Zk Zk Zk (bM Zrf (Zv rfl)) (dE Zh (show(ints .u32 l)[i]? =some (.int .u32 (an:Int))from by rw[←han];exact mK hil)) rfl ?_;refine cE 8 Zk ?_;refine ZT (fun w hi=>FP L U'.m an (by omega) w (hi.get Zh)) ?_;rintro _ _ ⟨_,⟨rfl,rfl⟩,rfl⟩;refine ZE 9 ?_;refine ZE 10 ?_;refine ZE 11 ?_;refine ZE 12 ?_;refine ZE 13 ?_;refine bO Zk ?_;refine Z_2 ?_;have hg:=jN hdb an;have hst:=uN hdb (show l.length≤4 by omega) hil;rw[han]at hst;refine ZA ?_;refine Zy (ug (Zv rfl) (Zv rfl) (by omega) rfl) ?_;refine ZA ?_;refine Zy (cu rfl rfl (Zv rfl) (by first|exact IntWalk.u32_in _ ⟨by omega,by omega⟩|exact rfl)) ?_;refine Zy (zW Zv0 Zv0 hst) ?_;refine Z_6 ?_;refine Zy (eP Zv0 Zv0 Zl) ?_;refine Z_2 ?_;refine cz (i) ?_ ?_ ?_
  ·exact⟨by omega,by omega⟩
  ·exact Zwk
  exact Zj
 simp only[aj]at hc4;obtain rfl:j=0:=by omega
 rw[List.drop_zero];refine Z_6 ?_;refine cj ⟨fun j=>List.elem j [3],[]⟩ Zk ?_;refine ZE 0 ?_;refine ZI 1 ?_;refine ZE 2 ?_;refine cE 3 Zk ?_;refine ZR ?_;refine bO Zk ?_;refine Z_2 ?_;refine bQ (uF bu bb L U'++[trC b9 tr]) Zj ?_;refine nc (cs':=[row _ _ _,exC _ _ _ _,row _ _ _]) (.inl rfl) Zu rfl rfl rfl Zh Zrf Zrf ?_;exact⟨rfl,rfl⟩
theorem BY(bu bb:Nat)(L:gQ)(U:Mmu)(hT:U.t.length=16)(s:Sp)(hr:s.root≤4294967295)(va k:Nat)(v:Int)(hva:va≤4294967295)(hk1:1≤k)(hk4:k≤4)(w:World)(hi:Inv w (bK (uF bu bb L U)) (uF bu bb L U) w):
  Ctr prog 221 [.pointer (some ⟨bu,0,none⟩),s.v,.int .u32 va,.int .u32 v,.int .i64 k] w (uF bu bb L U) (fun x cs=>x=(m4 L.n U s va k v).1.v∧cs=uF bu bb L (m4 L.n U s va k v).2):=by
 obtain⟨n1,n64,_⟩:=lr (hi.ok (eH L U.m) (by simp));have HS:=Ct bu bb L U hT s hr va k hva hk1 hk4 3;have hin0:=vH (n:=L.n) (U:=U) (s:=s) (va:=va) (k:=k) n64 hva (kind:=3) hk4;have hlen0:=oS (n:=L.n) (U:=U) (s:=s) (va:=va) (k:=k) (kind:=3);unfold m4;obtain⟨sp,hsp⟩:=Zgn (eX L.n U s va k 3);rw[hsp]at HS hin0 hlen0⊢;obtain⟨⟨l,tr⟩,U'⟩:=sp;simp only at HS hin0 hlen0⊢;refine bL func221 rfl ntmps221 rfl hi ?_;refine Z_2 ?_;refine ZO fun b6=>?_;refine ZN fun b10=>?_
 refine Z_8 ?_;refine ZcL (uF bu bb L U) (fun w hi hin=>HS w hin) ?_;rintro _ _ ⟨_,⟨A1,c1,rfl,rfl⟩,rfl⟩;refine Z_3 ?_;refine ZN fun b12=>?_
 refine ZA ?_;refine dz (cq (vs:=tr.cells) Zrf rfl rfl (iK rfl) Za (by exact rfl)) ?_;rintro _ _ ⟨rfl,rfl⟩;refine eo ?_;refine cJ (fun j:Nat=>[(0,.pointer (some ⟨bu,0,none⟩)),(3,.int .u32 v),(10,.pointer (some ⟨b10,0,none⟩)),(12,.pointer (some ⟨b12,0,none⟩)),(23,.slice A1 l.length c1),(24,.int .i64 l.length),(25,.int .i64 (j:Int))]) (fun j=>uF bu bb L ⟨IR U'.m l v j,U'.t⟩++[sl .u32 34 A1 l.length c1 l,trC b10 Tr.none,trC b12 tr]) (fun j=>j≤l.length) (fun j=>l.length - j) (0) ?_ ?_ ?_ ?_
 ·exact aw _
 ·exact Zwk
 ·exact Zu
 rintro j hj;refine Z_6 ?_;refine ZW ?_ ?_<;>intro hc3
 ·simp only[ap]at hc3;have hil:j<l.length:=by omega
  have hrange:=hin0 _ (List.getElem_mem hil);refine BR (fun w hi=>gj (hi.get (show Has _ (sl .u32 34 A1 l.length c1 l)from Zh)) (by omega)) ?_;rintro⟨ba,rfl⟩;obtain⟨an,han⟩:=ar hrange.1;have hgd:(l.getD j 0).toNat=an:=by(rw[ax,ak hil];simp only[Option.getD_some,han];omega)
  refine Z_7 ?_;refine Zy (cI (j:=j) (sz:=1) (r:=j) rfl Zrf (Zv rfl) (Zv rfl) (fun _=>by omega) (fun _=>by omega) (by omega)) ?_;refine dU (bM Zrf (Zv rfl)) (dE Zh (show(ints .u32 l)[j]? =some (.int .u32 (an:Int))from by rw[←han];exact mK hil)) rfl ?_;refine Z_4 ?_;refine cj ⟨fun j=>List.elem j [10],[]⟩ Zk ?_;refine ZE 0 ?_;refine ZE 1 ?_;refine ZFe 2 0 ?_;refine ZG 3 ?_;refine ZE 4 ?_;refine ZE 5 ?_;refine ZE 6 ?_;refine cR 7 rfl Zk Zk Zk (i3 Zv0 Zv0 rfl) rfl ?_;refine cR 8 rfl Zk Zk Zk (jY (Zv rfl) (Zv rfl) (by rw[IntWalk.i64_in _ ⟨by omega,by omega⟩];omega) rfl) rfl ?_;refine cR 9 rfl Zk Zk Zk (cu rfl rfl (Zv rfl) (xt v (show j<4 by omega))) rfl ?_;refine cE 10 Zk ?_;refine ZcA ([eH L (IR U'.m l v j)]) (fun w hi hin=>oW L (IR U'.m l v j) an (by omega) (qR v j) (nA v j) w hin) ?_;rintro _ _ ⟨_,⟨rfl,rfl⟩,rfl⟩;refine bO Zk ?_;refine Z_3 ?_;refine Zy (cF Zv0 Zv0 Zl) ?_;refine Z_2 ?_;refine cz (j+1) ?_ ?_ ?_
  ·exact⟨by omega,by omega⟩
  ·exact Zwk
  exact(show xe _ _ from by rw[show IR U'.m l v (j+1)=(IR U'.m l v j).put an (qR v j) by rw[IR,hgd]];exact Zj)
 simp only[aj]at hc3;obtain rfl:j=l.length:=by omega
 refine Z_8 ?_;refine ZM ?_;refine Z_3 ?_;refine bQ (uF bu bb L ⟨IR U'.m l v l.length,U'.t⟩++[trC b10 tr]) Zj ?_;refine kk (cs':=[row _ _ _,exC _ _ _ _,row _ _ _]) (.inl rfl) Zu rfl rfl Zh Zrf Zrf ?_;exact⟨rfl,rfl⟩
end Go.Proofs.YtomjgmbccamgiaaGreatDoor
