/- Lemmas. -/
import Derived.Test.YtkegldppffignaaGreatDoorPaa
import Derived.Test.YtkegldppffignaaGreatDoorPab
import Derived.Test.YtkegldppffignaaGreatDoorPac
import Derived.Test.YtkegldppffignaaGreatDoorProg
import Derived.Lib.EndianBits
set_option linter.unusedSimpArgs false
set_option linter.unusedVariables false
set_option maxRecDepth 100000
set_option maxHeartbeats 4000000
namespace Go.Ink
open Go.RowKit
def jV(l:List Bool):List Value:=l.map Value.bool
theorem jM(l:List Bool):(jV l).length=l.length:=by simp[jV]
theorem CM{l:List Bool}{j:Nat}{b:Bool}(h:l[j]? =some b):(jV l)[j]? =some (.bool b):=by simp[jV,h]
theorem zu(l:List Bool)(j:Nat)(b:Bool):(jV l).set j (.bool b)=jV (l.set j b):=by simp[jV,List.map_set]
theorem eh{k:IntKind}(xs:List Int)(j:Nat)(v:Int):(ints k xs).set j (.int k v)=ints k (xs.set j v):=by simp[ints,List.map_set]
def dr(B ow pr:List Int):List Value:=ints .u8 B++(ints .i64 ow++ints .i64 pr)
structure dF(B ow pr:List Int):Prop where
 b:B.length=16384
 ow:ow.length=256
 pr:pr.length=4
section
variable {B ow pr:List Int}
theorem fx(h:dF B ow pr):(dr B ow pr).length=16644:=by
 simp[dr,cQ,h.b,h.ow,h.pr]
theorem pool_B{i:Nat}{v:Int}(h:B[i]? =some v):(dr B ow pr)[i]? =some (.int .u8 v):=by
 have hi:=(au.1 h).1;unfold dr;rw[bG (by rw[cQ];exact hi)];exact cR h
theorem qp(hl:dF B ow pr){i:Nat}{v:Int}(h:ow[i]? =some v):(dr B ow pr)[16384+i]? =some (.int .i64 v):=by
 have hi:=(au.1 h).1;unfold dr;rw[bC (by rw[cQ,hl.b];omega),cQ,hl.b,show 16384+i - 16384=i by omega,bG (by rw[cQ];exact hi)];exact cR h
theorem w7(hl:dF B ow pr){i:Nat}{v:Int}(h:pr[i]? =some v):(dr B ow pr)[16640+i]? =some (.int .i64 v):=by
 unfold dr;rw[bC (by rw[cQ,hl.b];omega),cQ,hl.b,bC (by rw[cQ,hl.ow];omega),cQ,hl.ow,show 16640+i - 16384 - 256=i by omega];exact cR h
theorem Gs{i:Nat}(hi:i<B.length)(v:Int):(dr B ow pr).set i (.int .u8 v)=dr (B.set i v) ow pr:=by
 unfold dr;rw[List.set_append_left _ _ (by rw[cQ];exact hi),eh]
theorem qo(hl:dF B ow pr){i:Nat}(hi:i<256)(v:Int):(dr B ow pr).set (16384+i) (.int .i64 v)=dr B (ow.set i v) pr:=by
 unfold dr;rw[List.set_append_right _ _ (by rw[cQ,hl.b];omega),cQ,hl.b,show 16384+i - 16384=i by omega,List.set_append_left _ _ (by rw[cQ,hl.ow];exact hi),eh]
theorem qn(hl:dF B ow pr){i:Nat}(v:Int):(dr B ow pr).set (16640+i) (.int .i64 v)=dr B ow (pr.set i v):=by
 unfold dr;rw[List.set_append_right _ _ (by rw[cQ,hl.b];omega),cQ,hl.b,List.set_append_right _ _ (by rw[cQ,hl.ow];omega),cQ,hl.ow,show 16640+i - 16384 - 256=i by omega,eh]
def eO(B:List Int)(f:Nat):List Int:=B.take (f*64)++List.replicate 64 0++B.drop (f*64+64)
theorem Gr(hl:dF B ow pr){f:Nat}(hf:f<256):(dr B ow pr).take (f*64)++List.replicate 64 (Value.int .u8 0)++(dr B ow pr).drop (f*64+64)=dr (eO B f) ow pr:=by
 unfold dr eO;have h1:f*64<=(ints .u8 B).length:=by rw[cQ,hl.b];omega
 have h2:f*64+64<=(ints .u8 B).length:=by rw[cQ,hl.b];omega
 rw[List.take_append_of_le_length h1,List.drop_append_of_le_length h2,<-ap _ _ (ints .i64 ow++ints .i64 pr)];congr 1;simp[ints,List.map_take,List.map_drop]
theorem vZ(hB:B.length=16384){f:Nat}(hf:f<256):(eO B f).length=16384:=by
 simp only[eO,ae,aB,aI,bI,hB];omega
theorem xL(hB:B.length=16384){f j:Nat}(hf:f<256)(hj:j<64):(eO B f)[f*64+j]? =some 0:=by
 unfold eO;rw[bG (by simp[hB];omega),bC (by simp[hB];omega)];simp only[aB,hB];rw[show f*64+j - min (f*64) 16384=j by omega,List.getElem?_replicate,if_pos hj]
theorem oK(hB:B.length=16384){f i:Nat}(hf:f<256)(hi:i<f*64\/f*64+64<=i):(eO B f)[i]? =B[i]? :=by
 unfold eO;rcases hi with hi|hi
 .rw[bG (by simp[hB];omega),bG (by simp[hB];omega),List.getElem?_take,if_pos hi]
 rw[bC (by simp[hB];omega),List.getElem?_drop];simp only[ae,aB,aI,hB];congr 1;omega
end
def fC(ow:List Int)(o:Int)(k:Nat):List Int:=((List.range k).filter (λf=>ow[f]? ==some o)).map (λf:Nat=>(f:Int))
theorem tD(ow:List Int)(o:Int)(k:Nat):fC ow o (k+1)=fC ow o k++(bif ow[k]? ==some o then[(k:Int)]else[]):=by
 unfold fC;rw[List.range_succ,List.filter_append,List.map_append];congr 1;cases h:(ow[k]? ==some o)<;>simp[h]
theorem H0(ow:List Int)(o:Int)(k:Nat):(fC ow o k).length<=k:=by
 unfold fC;rw[List.length_map];exact aW (List.length_filter_le _ _) cE
end Go.Ink
namespace Go.Proofs.YtkegldppffignaaGreatDoor
open Go.RowKit Go.Ink Go.Proofs.Tryz
attribute [local irreducible] OpY bS
abbrev dj(bp:Nat)(B ow pr:List Int):bL:=row bp (dr B ow pr) 102
theorem tP(n:Int)(w:World):Ctr prog 57 [.int .i64 n] w [] (λv cs=>v= .bool (decide (0<=n)&&decide (n<4))/\cs=[]):=by
 refine bN func57 rfl ntmps57 rfl (Inv.start w) ?_;refine xF ?_;refine Zra ?_;exact de
theorem Cu(n:Int)(w:World):Ctr prog 113 [.int .i64 n] w [] (λv cs=>v= .bool (decide (16<=n)&&decide (n<256))/\cs=[]):=by
 refine bN func113 rfl ntmps113 rfl (Inv.start w) ?_;refine xF ?_;refine Zra ?_;exact de
theorem Kq(bp:Nat)(B ow pr:List Int)(hl:dF B ow pr)(f:Nat)(o:Int)(h1:16<=f)(h2:f<256)(h3:ow[f]? =some o)(h4:o≠ -1)(w:World)(hp:(dj bp B ow pr).ok w):
  Ctr prog 138 [.pointer (some ⟨bp,0,none⟩),.int .i64 f] w [] (λv cs=>v= .tuple #[.int .i64 o,.bool true]/\cs=[]):=by
 refine bN func138 rfl ntmps138 rfl (Inv.start w) ?_;refine dS ?_;refine ZSe (λw hi=>Cu f w) ?_;rw[ax (show(16:Int)<=f by omega),ax (show(f:Int)<256 by omega)];refine Z_5 ?_;refine ZFb 16384 ?_;refine Zyn rfl rfl (cX (j:=f) (sz:=1) (r:=16384+f) rfl Zrf (dh rfl) (dh rfl) Wq4 Wq4 Wq1) ?_;refine iu (cy rfl rfl) (bQ Zrf (dh rfl)) (dy hp (qp hl h3)) rfl ?_;refine Z_4 ?_;refine dc rfl ((show(_||(o== -1))=false from by rw[beq_eq_false_iff_ne.2 h4];rfl)) ?_;refine Z_7 ?_;refine ZFa 16384 ?_;refine Zy (cX (j:=f) (sz:=1) (r:=16384+f) rfl Zrf (Zv rfl) (Zv rfl) Wq4 Wq4 Wq1) ?_;refine dN (bQ Zrf Zv0) (dy hp (qp hl h3)) rfl ?_;refine Z_5 ?_;refine i9 ?_;exact de
theorem Hz(bp:Nat)(B ow pr:List Int)(hl:dF B ow pr)(f a:Nat)(o:Int)(h1:16<=f)(h2:f<256)(h3:ow[f]? =some o)(h4:o≠ -1)(h5:a<64)(w:World)(hp:(dj bp B ow pr).ok w):
  Ctr prog 116 [.pointer (some ⟨bp,0,none⟩),.int .i64 f,.int .i64 a] w [] (λv cs=>v= .bool true/\cs=[]):=by
 refine bN func116 rfl ntmps116 rfl (Inv.start w) ?_;refine Z_9 ?_;refine ZSe (λw hi=>Kq bp B ow pr hl f o h1 h2 h3 h4 w (bL.old hp hi)) ?_;refine mn ?_;refine Z_2 ?_;refine Zra ?_;rw[ax (show(0:Int)<=a by omega),ax (show(a:Int)<64 by omega)];exact de
theorem Kp(bp:Nat)(B ow pr:List Int)(hl:dF B ow pr)(f a:Nat)(o b:Int)(h1:16<=f)(h2:f<256)(h3:ow[f]? =some o)(h4:o≠ -1)(h5:a<64)(h6:B[f*64+a]? =some b)(w:World)(hp:(dj bp B ow pr).ok w):
  Ctr prog 95 [.pointer (some ⟨bp,0,none⟩),.int .i64 f,.int .i64 a] w [] (λv cs=>v= .tuple #[.int .u8 b,.bool true]/\cs=[]):=by
 refine bN func95 rfl ntmps95 rfl (Inv.start w) ?_;refine gR ?_;refine ZSe (λw hi=>Hz bp B ow pr hl f a o h1 h2 h3 h4 h5 w (bL.old hp hi)) ?_;refine Z_3 ?_;refine fS ?_;refine Z_9 ?_;refine Zy (cX (j:=f) (sz:=64) (r:=f*64) rfl Zrf (Zv rfl) (Zv rfl) Wq4 Wq4 Wq1) ?_;refine Zy (cX (j:=a) (sz:=1) (r:=f*64+a) rfl Zrf (Zv rfl) (Zv rfl) Wq4 Wq4 Wq1) ?_;refine dN (bQ Zrf Zv0) (dy hp (pool_B h6)) rfl ?_;refine Z_5 ?_;refine i9 ?_;exact de
theorem Gj(bp:Nat)(B ow pr:List Int)(hl:dF B ow pr)(f a:Nat)(o b:Int)(h1:16<=f)(h2:f<256)(h3:ow[f]? =some o)(h4:o≠ -1)(h5:a<64)(w:World)(hi:Inv w (bM [dj bp B ow pr]) [dj bp B ow pr] w):
  Ctr prog 112 [.pointer (some ⟨bp,0,none⟩),.int .i64 f,.int .i64 a,.int .u8 b] w [dj bp B ow pr] (λv cs=>v= .bool true/\cs=[dj bp (B.set (f*64+a) b) ow pr]):=by
 have hb:=hl.b;refine bN func112 rfl ntmps112 rfl hi ?_;refine fE ?_;refine ZSe (λw hi=>Hz bp B ow pr hl f a o h1 h2 h3 h4 h5 w (hi.get Zh)) ?_;refine Z_3 ?_;refine fS ?_;refine dS ?_;refine Zy (cX (j:=f) (sz:=64) (r:=f*64) rfl Zrf (Zv rfl) (Zv rfl) Wq4 Wq4 Wq1) ?_;refine Zy (cX (j:=a) (sz:=1) (r:=f*64+a) rfl Zrf (Zv rfl) (Zv rfl) Wq4 Wq4 Wq1) ?_;refine dH (eK Zrf rfl rfl rfl Za (by rw[fx hl];omega)) ?_;rintro _ _ ⟨rfl,rfl⟩;rw[Gs Wq1];refine Z_8 ?_;refine Zrb ([row _ _ _]) ?_;exact de
theorem AU(bp:Nat)(B ow pr:List Int)(hl:dF B ow pr)(o:Nat)(ho:o<4)(w:World)(hp:(dj bp B ow pr).ok w):
  Ctr prog 64 [.pointer (some ⟨bp,0,none⟩),.int .i64 o] w [] (λv cs=>∃A c,v= .slice A (fC ow o 256).length c/\cs=[sl .i64 3 A (fC ow o 256).length c (fC ow o 256)]):=by
 refine bN func64 rfl ntmps64 rfl (Inv.start w) ?_;refine gy ?_;refine ZSe (λw hi=>tP o w) ?_;rw[ax (show(0:Int)<=o by omega),ax (show(o:Int)<4 by omega)];refine Z_3 ?_;refine fS ?_;refine Z_5 ?_;refine dC 3 1 ?_;refine Z_4 ?_;refine cq (λs:Nat×Option Addr×Nat=>[(0,.pointer (some ⟨bp,0,none⟩)),(1,.int .i64 o),(5,.slice s.2.1 (fC ow o s.1).length s.2.2),(11,.int .i64 s.1)]) (λs=>[sl .i64 3 s.2.1 (fC ow o s.1).length s.2.2 (fC ow o s.1)]) (λs=>s.1<=256) (λs=>256 - s.1) ((0,none,0)) ?_ ?_ ?_ ?_
 .exact aq _
 .exact Zwk
 .exact Zu
 rintro⟨k,A1,c1⟩ hk;simp only at hk;dsimp only;refine Z_6 ?_;refine ZW ?_ ?_<;>intro hc5
 .simp only[aj]at hc5;have hkl:k<ow.length:=by(rw[hl.ow];omega)
  have hok:ow[k]? =some (ow[k]'hkl):=ai hkl;have hle:=H0 ow o k;refine rj ?_;refine ZFa 16384 ?_;refine Zy (cX (j:=k) (sz:=1) (r:=16384+k) rfl Zrf (Zv rfl) (Zv rfl) Wq4 Wq4 Wq1) ?_;refine dN (bQ Zrf Zv0) (dy hp (qp hl hok)) rfl ?_;refine Z_4 ?_;refine ZW ?_ ?_<;>intro hc7
  .have he:fC ow o (k+1)=fC ow o k++[(k:Int)]:=by(rw[tD,hok];have h2:ow[k]'hkl=(o:Int):=(by simpa using hc7);rw[h2];simp)
   refine Z_3 ?_;refine jO ?_;rintro _ _ ⟨b24,rfl,rfl⟩;refine gj (cD (e:=3) (sz:=1) (bytes:=8) rfl rfl Za rfl rfl (λw hi=>hi.rd Zh) (jA rfl) gS Wq1) rfl ?_;rintro _ _ ⟨A2,c2,rfl,rfl⟩;rw[show(fC ow o k).length+1=(fC ow o (k+1)).length by(rw[he];simp),show ints .i64 (fC ow o k)++[Value.int .i64 (k:Int)]=ints .i64 (fC ow o (k+1)) by(rw[he];exact cj _ [_])];refine Z_5 ?_;refine Wq8 ?_;refine dW ((k+1,A2,c2)) ?_ ?_ ?_
   .exact⟨by show k+1<=256;omega,by show 256 - (k+1)<256 - k;omega⟩
   .exact Zwk
   exact Zu
  have he:fC ow o (k+1)=fC ow o k:=by(rw[tD,hok,show(some (ow[k]'hkl)==some (o:Int))=false from hc7];simp)
  rw[<-he];refine Z_4 ?_;refine Wq8 ?_;refine dW ((k+1,A1,c1)) ?_ ?_ ?_
  .exact⟨by show k+1<=256;omega,by show 256 - (k+1)<256 - k;omega⟩
  .exact Zwk
  exact Zu
 simp only[ah]at hc5;obtain rfl:k=256:=by omega
 refine gR ?_;refine Zrb ([slv _ _ _ _ _ _]) ?_;exact⟨_,_,rfl,rfl⟩
theorem take_ok(bp:Nat)(B ow pr:List Int)(hl:dF B ow pr)(o:Nat)(ho:o<4)(n:Int)(hn:pr[o]? =some n)(hlt:((fC ow o 256).length:Int)<n)(f0:Nat)(h16:16<=f0)(h256:f0<256)(hf0:ow[f0]? =some (-1))(w:World)(hi:Inv w (bM [dj bp B ow pr]) [dj bp B ow pr] w):
  Ctr prog 136 [.pointer (some ⟨bp,0,none⟩),.int .i64 o] w [dj bp B ow pr] (λv cs=>∃f:Nat,16<=f/\f<256/\ow[f]? =some (-1)/\v= .tuple #[.int .i64 f,.int .i64 0]/\cs=[dj bp (eO B f) (ow.set f o) pr]):=by
 have hb:=hl.b;have how:=hl.ow;refine bN func136 rfl ntmps136 rfl hi ?_;refine fE ?_;refine ZSe (λw hi=>tP o w) ?_;rw[ax (show(0:Int)<=o by omega),ax (show(o:Int)<4 by omega)];refine Z_4 ?_;refine fS ?_;refine Zs (bU ⟨λj=>List.elem j [],[]⟩ Zk ?_);refine gO ?_;refine ZE 4 ?_;refine ZE 5 ?_;refine ZE 6 ?_;refine ZFe 7 16640 ?_;refine cG 8 rfl Zk Zk Zk (cX (j:=o) (sz:=1) (r:=16640+o) rfl Zrf (Zv rfl) (Zv rfl) (λ_=>by omega) (λ_=>by omega) (by omega)) rfl ?_;refine dD 9 rfl Zk Zk Zk Zk (bQ Zrf Zv0) (cu Zh (w7 hl hn)) rfl ?_;refine cn 2 Zk ?_;refine ZT (λw hi=>AU bp B ow pr hl o ho w (hi.get Zh)) ?_;rintro _ _ ⟨_,⟨A1,c1,rfl,rfl⟩,rfl⟩;refine ZE 3 ?_;refine ZE 10 ?_;refine ZE 11 ?_;refine dx ?_;refine Zt (dc rfl ((aw (by omega))) ?_);refine dS ?_;refine cq (λk:Nat=>[(0,.pointer (some ⟨bp,0,none⟩)),(1,.int .i64 o),(6,.int .i64 (k:Int))]) (λ_=>[dj bp B ow pr]) (λk=>16<=k/\k<=f0) (λk=>f0 - k) (16) ?_ ?_ ?_ ?_
 .exact⟨by omega,h16⟩
 .exact Zwk
 .exact Zu
 rintro k ⟨hk1,hk2⟩;refine Z_7 ?_;refine ZW ?_ ?_<;>intro hc6
 .have hkl:k<ow.length:=by omega
  have hok:ow[k]? =some (ow[k]'hkl):=ai hkl;refine Z_9 ?_;refine ZFa 16384 ?_;refine Zy (cX (j:=k) (sz:=1) (r:=16384+k) rfl Zrf (Zv rfl) (Zv rfl) (λ_=>by omega) (λ_=>by omega) (by omega)) ?_;refine dN (bQ Zrf Zv0) (cu Zh (qp hl hok)) rfl ?_;refine Z_3 ?_;refine ZW ?_ ?_<;>intro hc8
  .have h2:ow[k]'hkl= -1:=(by simpa using hc8);rw[h2]at hok;refine Z_6 ?_;refine ZFa 16384 ?_;refine Zy (cX (j:=k) (sz:=1) (r:=16384+k) rfl Zrf (Zv rfl) (Zv rfl) (λ_=>by omega) (λ_=>by omega) (by omega)) ?_;refine dH (eK Zrf rfl rfl rfl Za (by rw[fx hl];omega)) ?_;rintro _ _ ⟨rfl,rfl⟩;rw[qo hl (show k<256 by omega)];have hl':dF B (ow.set k o) pr:=⟨hl.b,by rw[aC];exact hl.ow,hl.pr⟩;refine Z_6 ?_;refine Zy (iP (vs:=List.replicate 64 (Value.int .u8 0)) Zk (.inr ⟨_,_,_,rfl,λ_=>rfl⟩)) ?_;refine Z_2 ?_;refine Zy (cX (j:=k) (sz:=64) (r:=k*64) rfl Zrf (Zv rfl) (Zv rfl) (λ_=>by omega) (λ_=>by omega) (by omega)) ?_;refine dH (kv (n:=64) Zrf rfl rfl (λu hu=>by rw[List.eq_of_mem_replicate hu];rfl) Za (aI) (by rw[fx hl',aI];omega)) ?_;rintro _ _ ⟨rfl,rfl⟩;rw[aI,Gr hl' (show k<256 by omega)];refine rj ?_;refine rx (cs':=[row _ _ _]) (.inl rfl) Zu rfl rfl rfl ?_;exact⟨k,hk1,by omega,hok,rfl,rfl⟩
  have h2:ow[k]'hkl≠ -1:=(by simpa using hc8);have hne:k≠f0:=by(rintro rfl;rw[hok]at hf0;exact h2 (ay hf0))
  refine Z_5 ?_;refine Wq8 ?_;refine dW (k+1) ?_ ?_ ?_
  .exact⟨⟨by omega,by omega⟩,by omega⟩
  .exact Zwk
  exact Zu
 exfalso;simp only[ah]at hc6;omega
end Go.Proofs.YtkegldppffignaaGreatDoor
namespace Go.Ink
open Go.RowKit
theorem wS{α:Type}{n k:Nat}(a b:α)(h:k<n):(List.replicate k a++List.replicate (n - k) b).set k a=List.replicate (k+1) a++List.replicate (n - (k+1)) b:=by
 rw[List.set_append_right _ _ cE,aI,Nat.sub_self,show n - k=(n - (k+1))+1 by omega,List.replicate_succ,List.set_cons_zero,List.replicate_succ',ap]
 rfl
theorem wU{α:Type}(n:Nat)(a b:α):List.replicate n a++List.replicate (n - n) b=List.replicate n a:=by simp
theorem rN{α:Type}(n:Nat)(a b:α):List.replicate 0 a++List.replicate (n - 0) b=List.replicate n b:=by simp
theorem oe(k:IntKind)(n:Nat)(a:Int):List.replicate n (Value.int k a)=ints k (List.replicate n a):=by simp[ints]
theorem wT(n:Nat)(a:Bool):List.replicate n (Value.bool a)=jV (List.replicate n a):=by simp[jV]
theorem Kj{B ow pr:List Int}(hl:dF B ow pr):((dr B ow pr).drop 16640).take (ints .i64 pr).length=ints .i64 pr:=by
 unfold dr;rw[<-ap,List.drop_append,List.drop_eq_nil_of_le (by simp[cQ,hl.b,hl.ow]),aO,show 16640 - (ints .u8 B++ints .i64 ow).length=0 by simp[cQ,hl.b,hl.ow],List.drop_zero,bn]
def pd(pr:List Int)(k:Nat):Int:=(pr.take k).foldl (λs x=>s+(if 0>x then 0 else x)) 0
theorem vc{pr:List Int}{k:Nat}(h:k<pr.length):pd pr (k+1)=pd pr k+(if 0>pr[k]'h then 0 else pr[k]'h):=by
 unfold pd;rw[List.take_succ_eq_append_getElem h,List.foldl_append]
 rfl
end Go.Ink
namespace Go.Proofs.YtkegldppffignaaGreatDoor
open Go.RowKit Go.Ink Go.Proofs.Tryz
attribute [local irreducible] OpY bS
theorem Ba(w:World):Ctr prog 23 [] w [] (λv cs=>∃bp,v= .pointer (some ⟨bp,0,none⟩)/\cs=[dj bp (List.replicate 16384 0) (List.replicate 256 (-1)) (List.replicate 4 (-1))]):=by
 have hl1:∀k,k<=256->dF (List.replicate 16384 0) (List.replicate k (-1)++List.replicate (256 - k) 0) (List.replicate 4 0):=λk hk=>⟨aI,by simp;omega,rfl⟩
 have hl2:∀k,k<=4->dF (List.replicate 16384 0) (List.replicate 256 (-1)) (List.replicate k (-1)++List.replicate (4 - k) 0):=λk hk=>⟨aI,aI,by simp;omega⟩
 refine bN func23 rfl ntmps23 rfl (Inv.start w) ?_;refine Z_7 ?_;refine Zy (iP (vs:=dr (List.replicate 16384 0) (List.replicate 256 0) (List.replicate 4 0)) Zk (.inl ⟨_,rfl,rfl⟩)) ?_;refine ZO λb5=>?_
 rw[<-rN 256 (-1:Int) 0];refine dS ?_;refine cq (λk:Nat=>[(1,.pointer (some ⟨b5,0,none⟩)),(6,.int .i64 (k:Int))]) (λk=>[dj b5 (List.replicate 16384 0) (List.replicate k (-1)++List.replicate (256 - k) 0) (List.replicate 4 0)]) (λk=>k<=256) (λk=>256 - k) (0) ?_ ?_ ?_ ?_
 .exact aq _
 .exact Zwk
 .exact Zu
 rintro k hk;refine Z_6 ?_;refine ZW ?_ ?_<;>intro hc3
 .simp only[aj]at hc3;refine gy ?_;refine ZFa 16384 ?_;refine Zy (cX (j:=k) (sz:=1) (r:=16384+k) rfl Zrf (Zv rfl) (Zv rfl) Wq4 Wq4 Wq1) ?_;refine dH (eK Zrf rfl rfl rfl Za (by rw[fx (hl1 k hk)];omega)) ?_;rintro _ _ ⟨rfl,rfl⟩;rw[qo (hl1 k hk) Wq1,wS _ _ Wq1];refine Z_4 ?_;refine Wq8 ?_;refine dW (k+1) ?_ ?_ ?_
  .exact⟨by omega,by omega⟩
  .exact Zwk
  exact Zu
 simp only[ah]at hc3;obtain rfl:k=256:=by omega
 refine Z_8 ?_;rw[wU,<-rN 4 (-1:Int) 0];refine Z_4 ?_;refine cq (λk:Nat=>[(1,.pointer (some ⟨b5,0,none⟩)),(15,.int .i64 (k:Int))]) (λk=>[dj b5 (List.replicate 16384 0) (List.replicate 256 (-1)) (List.replicate k (-1)++List.replicate (4 - k) 0)]) (λk=>k<=4) (λk=>4 - k) (0) ?_ ?_ ?_ ?_
 .exact aq _
 .exact Zwk
 .exact Zu
 rintro k hk;refine Z_6 ?_;refine ZW ?_ ?_<;>intro hc8
 .simp only[aj]at hc8;refine gy ?_;refine ZFa 16640 ?_;refine Zy (cX (j:=k) (sz:=1) (r:=16640+k) rfl Zrf (Zv rfl) (Zv rfl) Wq4 Wq4 Wq1) ?_;refine dH (eK Zrf rfl rfl rfl Za (by rw[fx (hl2 k hk)];omega)) ?_;rintro _ _ ⟨rfl,rfl⟩;rw[qn (hl2 k hk),wS _ _ Wq1];refine Z_4 ?_;refine Wq8 ?_;refine dW (k+1) ?_ ?_ ?_
  .exact⟨by omega,by omega⟩
  .exact Zwk
  exact Zu
 simp only[ah]at hc8;obtain rfl:k=4:=by omega
 refine Z_7 ?_;rw[wU];refine Z_5 ?_;refine Zrb ([row _ _ _]) ?_;exact⟨_,rfl,rfl⟩
theorem DO(bp:Nat)(B ow pr:List Int)(hl:dF B ow pr)(o n:Nat)(ho:o<4)(hn:n<=64)(h1:pr[o]? =some (-1))(hs:(n:Int)+pd pr 4<=240)(hb:∀x,x∈pr->x<=1000)(w:World)(hi:Inv w (bM [dj bp B ow pr]) [dj bp B ow pr] w):
  Ctr prog 81 [.pointer (some ⟨bp,0,none⟩),.int .i64 o,.int .i64 n] w [dj bp B ow pr] (λv cs=>v= .int .i64 0/\cs=[dj bp B ow (pr.set o n)]):=by
 have hpl:=hl.pr;have hbd:∀k,k<=4->0<=pd pr k/\pd pr k<=1000*(k:Int):=by
  intro k
  induction k with
  |zero=>intro _;exact⟨by simp[pd],by simp[pd]⟩
  |succ k ih=>
   intro hk;have h1:=ih Wq1;have hkl:k<pr.length:=by omega
   have h2:=hb _ (List.getElem_mem hkl);rw[vc hkl];split<;>omega
 refine bN func81 rfl ntmps81 rfl hi ?_;refine dS ?_;refine ZSe (λw hi=>tP o w) ?_;rw[ax (show(0:Int)<=o by omega),ax (show(o:Int)<4 by omega)];refine gR ?_;refine dc rfl ((by rw[aw (show¬(n:Int)<0 by omega),aw (show¬(64:Int)<n by omega)];rfl)) ?_;refine Z_5 ?_;refine ZFa 16640 ?_;refine Zy (cX (j:=o) (sz:=1) (r:=16640+o) rfl Zrf (Zv rfl) (Zv rfl) Wq4 Wq4 Wq1) ?_;refine dN (bQ Zrf Zv0) (cu Zh (w7 hl h1)) rfl ?_;refine Z_4 ?_;refine fS ?_;refine gR ?_;have e0:pd pr 0=0:=rfl;refine Z_2 ?_;refine ZFa 16640 ?_;refine dN (cz (vs:=ints .i64 pr) Zrf (λw=>by rw[cQ,hpl];rfl) (Zv rfl)) (cK (o:=16640) Zh (Kj hl)) rfl ?_;refine Z_4 ?_;refine cq (λk:Nat=>[(0,.pointer (some ⟨bp,0,none⟩)),(1,.int .i64 o),(2,.int .i64 n),(7,.int .i64 (n+pd pr k)),(34,.agg (ints .i64 pr).toArray),(35,.int .i64 (k:Int))]) (λ_=>[dj bp B ow pr]) (λk=>k<=4) (λk=>4 - k) (0) ?_ ?_ ?_ ?_
 .exact aq _
 .exact Zwk
 .exact Zu
 rintro k hk;refine Z_6 ?_;refine ZW ?_ ?_<;>intro hc7
 .simp only[aj]at hc7;have hkl:k<pr.length:=by omega
  have hbk:=hbd k hk;have hbk2:=hb _ (List.getElem_mem hkl);refine Z_6 ?_;refine Zy (Bq (j:=k) rfl Zrf Zrf (Zv rfl) (Zv rfl) Wq4 Wq4 (λ_=>nM hkl)) ?_;refine Z_6 ?_;refine Zy (sd Zv0 Zv0 rfl) ?_;refine dN (df (rc rfl) (rc rfl) (show IntKind.i64.wrap _=n+pd pr (k+1) by rw[vc hkl];refine(bF _ ⟨?_,?_⟩).trans Wq1<;>split<;>omega)) (λ_ _=>trivial) rfl ?_;refine Z_5 ?_;refine Wq8 ?_;refine dW (k+1) ?_ ?_ ?_
  .exact⟨by omega,by omega⟩
  .exact Zwk
  exact Zu
 simp only[ah]at hc7;obtain rfl:k=4:=by omega
 refine gR ?_;refine dc rfl ((aw Wq1)) ?_;refine Z_8 ?_;refine ZFa 16640 ?_;refine Zy (cX (j:=o) (sz:=1) (r:=16640+o) rfl Zrf (Zv rfl) (Zv rfl) Wq4 Wq4 Wq1) ?_;refine dH (eK Zrf rfl rfl rfl Za (by rw[fx hl];omega)) ?_;rintro _ _ ⟨rfl,rfl⟩;rw[qn hl];refine Z_8 ?_;refine Zrb ([row _ _ _]) ?_;exact de
abbrev iW(bt bp:Nat)(o:Nat)(bf bg n:Nat):bL:=row bt [.pointer (some ⟨bp,0,none⟩),.int .i64 o,.slice (some ⟨bf,0,none⟩) n n,.slice (some ⟨bg,0,none⟩) n n] 143
abbrev frC(bf n:Nat)(fr:List Int):bL:=sl .i64 3 (some ⟨bf,0,none⟩) n n fr
abbrev gdC(bg n:Nat)(gd:List Bool):bL:=slv 4 1 (some ⟨bg,0,none⟩) n n (jV gd)
theorem nnew_ok(bp:Nat)(B ow pr:List Int)(hl:dF B ow pr)(o n:Nat)(ho:o<4)(hn0:1<=n)(hn:n<=64)(h1:pr[o]? =some (-1))(hs:(n:Int)+pd pr 4<=240)(hb:∀x,x∈pr->x<=1000)(w:World)(hi:Inv w (bM [dj bp B ow pr]) [dj bp B ow pr] w):
  Ctr prog 50 [.pointer (some ⟨bp,0,none⟩),.int .i64 o,.int .i64 n] w [dj bp B ow pr] (λv cs=>∃bt bf bg,v= .tuple #[.pointer (some ⟨bt,0,none⟩),.int .i64 0]/\cs=[dj bp B ow (pr.set o n),iW bt bp o bf bg n,frC bf n (List.replicate n (-1)),gdC bg n (List.replicate n false)]):=by
 refine bN func50 rfl ntmps50 rfl hi ?_;refine mn ?_;refine Z_9 ?_;refine dc rfl ((by rw[aw (show¬(o:Int)<0 by omega),aw (show¬(4:Int)<=o by omega),aw (show¬(n:Int)<1 by omega),aw (show¬(64:Int)<n by omega)];rfl)) ?_;refine Z_8 ?_;refine ZcM ([dj bp B ow pr]) (λw hi hin=>DO bp B ow pr hl o n ho hn h1 hs hb w hin) ?_;refine Z_9 ?_;refine fS ?_;refine Z_3 ?_;refine bU ⟨λj=>List.elem j [],[]⟩ Zk ?_;refine gO ?_;refine ZE 2 ?_;refine ZE 4 ?_;refine k8 3 5 Zk ?_ ?_
 .refine kf rfl rfl (kO (bytes:=8) (n:=n) rfl rfl rfl rfl rfl rfl rfl Wq1 gS) ZJ rfl ?_;rintro _ _ ⟨b39,rfl,rfl⟩;refine cn 5 Zk ?_;refine kf rfl rfl (kO (bytes:=1) (n:=n) rfl rfl rfl rfl rfl rfl rfl Wq1 gS) ZJ rfl ?_;rintro _ _ ⟨b41,rfl,rfl⟩;refine ZE 6 ?_;refine cn 7 Zk ?_;refine kf rfl rfl (z7 rfl rfl) ZJ rfl ?_;rintro _ _ ⟨b43,rfl,rfl⟩;refine ZE 8 ?_;refine dx ?_;refine Z_4 ?_;rw[oe,wT,<-rN n (-1:Int) 0];refine iT [dj bp B ow (pr.set o n),iW b43 bp o b39 b41 n,frC b39 n (List.replicate 0 (-1)++List.replicate (n - 0) 0),gdC b41 n (List.replicate n false)] Zj ?_;refine Z_9 ?_;refine cq (λk:Nat=>[(9,.pointer (some ⟨b43,0,none⟩)),(48,.int .i64 n),(49,.int .i64 (k:Int))]) (λk=>[dj bp B ow (pr.set o n),iW b43 bp o b39 b41 n,frC b39 n (List.replicate k (-1)++List.replicate (n - k) 0),gdC b41 n (List.replicate n false)]) (λk=>k<=n) (λk=>n - k) (0) ?_ ?_ ?_ ?_
  .exact aq _
  .exact Zwk
  .exact Zu
  rintro k hk;refine Z_6 ?_;refine ZW ?_ ?_<;>intro hc8
  .simp only[aj]at hc8;refine ri ?_;refine Zy (cw (j:=k) (sz:=1) (r:=k) rfl Zrf (Zv rfl) (Zv rfl) Wq4 Wq4 Wq1) ?_;refine dH (fh Zrf rfl rfl rfl Za Wq1) ?_;rintro _ _ ⟨rfl,rfl⟩;rw[eh,wS _ _ Wq1];refine Z_4 ?_;refine Wq8 ?_;refine dW (k+1) ?_ ?_ ?_
   .exact⟨by omega,by omega⟩
   .exact Zwk
   exact Zu
  simp only[ah]at hc8;obtain rfl:k=n:=by omega
  rw[wU];refine jd ?_;refine rx (cs':=[row _ _ _,row _ _ _,slv _ _ _ _ _ _,slv _ _ _ _ _ _]) (.inl rfl) Zu rfl rfl rfl ?_;exact⟨_,_,_,rfl,rfl⟩
 refine kf rfl rfl (kO (bytes:=1) (n:=n) rfl rfl rfl rfl rfl rfl rfl Wq1 gS) ZJ rfl ?_;rintro _ _ ⟨b41,rfl,rfl⟩;refine cn 3 Zk ?_;refine kf rfl rfl (kO (bytes:=8) (n:=n) rfl rfl rfl rfl rfl rfl rfl Wq1 gS) ZJ rfl ?_;rintro _ _ ⟨b39,rfl,rfl⟩;refine ZE 6 ?_;refine cn 7 Zk ?_;refine kf rfl rfl (z7 rfl rfl) ZJ rfl ?_;rintro _ _ ⟨b43,rfl,rfl⟩;refine ZE 8 ?_;refine dx ?_;refine Z_4 ?_;rw[oe,wT,<-rN n (-1:Int) 0];refine iT [dj bp B ow (pr.set o n),iW b43 bp o b39 b41 n,frC b39 n (List.replicate 0 (-1)++List.replicate (n - 0) 0),gdC b41 n (List.replicate n false)] Zj ?_;refine Z_9 ?_;refine cq (λk:Nat=>[(9,.pointer (some ⟨b43,0,none⟩)),(48,.int .i64 n),(49,.int .i64 (k:Int))]) (λk=>[dj bp B ow (pr.set o n),iW b43 bp o b39 b41 n,frC b39 n (List.replicate k (-1)++List.replicate (n - k) 0),gdC b41 n (List.replicate n false)]) (λk=>k<=n) (λk=>n - k) (0) ?_ ?_ ?_ ?_
 .exact aq _
 .exact Zwk
 .exact Zu
 rintro k hk;refine Z_6 ?_;refine ZW ?_ ?_<;>intro hc8
 .simp only[aj]at hc8;refine ri ?_;refine Zy (cw (j:=k) (sz:=1) (r:=k) rfl Zrf (Zv rfl) (Zv rfl) Wq4 Wq4 Wq1) ?_;refine dH (fh Zrf rfl rfl rfl Za Wq1) ?_;rintro _ _ ⟨rfl,rfl⟩;rw[eh,wS _ _ Wq1];refine Z_4 ?_;refine Wq8 ?_;refine dW (k+1) ?_ ?_ ?_
  .exact⟨by omega,by omega⟩
  .exact Zwk
  exact Zu
 simp only[ah]at hc8;obtain rfl:k=n:=by omega
 rw[wU];refine jd ?_;refine rx (cs':=[row _ _ _,row _ _ _,slv _ _ _ _ _ _,slv _ _ _ _ _ _]) (.inl rfl) Zu rfl rfl rfl ?_;exact⟨_,_,_,rfl,rfl⟩
end Go.Proofs.YtkegldppffignaaGreatDoor
namespace Go.Ink
open Go.RowKit
structure fu where
 bp:Nat
 bt:Nat
 bf:Nat
 bg:Nat
 bm:Nat
 o:Nat
 n:Nat
 gw:List Int
 gB:List Int
 gp:List Int
def fu.oth(L:fu)(f:Nat):Bool:=match L.gw[f]? with|some x=>x != -1&&x !=(L.o:Int)|none=>false
structure Mem where
 data:List Int
 MS:List Bool
structure zL where
 B:List Int
 ow:List Int
 pr:List Int
 fr:List Int
 gd:List Bool
structure eI(L:fu)(M:Mem)(k:zL):Prop where
 pl:dF k.B k.ow k.pr
 o4:L.o<4
 n1:1<=L.n
 n64:L.n<=64
 fr:k.fr.length=L.n
 gd:k.gd.length=L.n
 dl:M.data.length=L.n*64
 tl:M.MS.length=64
 db:u8s M.data
 MY:∀p,p<L.n->(k.fr[p]? =some (-1)/\∀j,j<64->M.data[p*64+j]? =some 0)\/(∃f:Nat,k.fr[p]? =some (f:Int)/\16<=f/\f<256/\k.ow[f]? =some (L.o:Int)/\∀j,j<64->k.B[f*64+j]? =M.data[p*64+j]?)
 inj:∀p q f:Nat,k.fr[p]? =some (f:Int)->k.fr[q]? =some (f:Int)->p=q
 held:∀f:Nat,f<256->(L.oth f=false/\k.ow[f]? =some (-1))\/(L.oth f=false/\k.ow[f]? =some (L.o:Int)/\∃p:Nat,k.fr[p]? =some (f:Int))\/(L.oth f=true/\k.ow[f]? =L.gw[f]? /\∀j,j<64->k.B[f*64+j]? =L.gB[f*64+j]?)
 prom:k.pr[L.o]? =some (L.n:Int)
 prs:k.pr=L.gp
 cap:L.n<=((List.range' 16 240).filter (λf=> !L.oth f)).length
def Mem.put(M:Mem)(a:Nat)(b:Int):Mem:=⟨M.data.set a b,M.MS.set (a/64) true⟩
def Mem.calm(M:Mem):Mem:=⟨M.data,List.replicate 64 false⟩
theorem mO:∀(n:Nat) (l:List Nat),l.Nodup->(∀x,x∈l->x<n)->l.length<=n
 |0,l,_,h=>by
  cases l with
  |nil=>simp
  |cons x l=>have:=h x cE;omega
 |n+1,l,hn,h=>by
  by_cases hm:n∈l
  .have h1:=mO n (l.erase n) (hn.erase n) (λx hx=>by
    have h2:=(hn.mem_erase_iff).1 hx;have h3:=h x h2.2;have:=h2.1;omega)
   rw[List.length_erase_of_mem hm]at h1;omega
  have h1:=mO n l hn (λx hx=>by
   have h3:=h x hx;have:x≠n:=λe=>hm (e▸hx)
   omega)
  omega
section
variable {L:fu} {M:Mem} {k:zL}
theorem Hq{l:List Int}{f:Int}(h:f∈l):l[l.idxOf f]? =some f:=by
 have hlt:l.idxOf f<l.length:=List.idxOf_lt_length_of_mem h;rw[ai hlt,List.getElem_idxOf]
theorem yT{l:List Int}:∀{fs:List Nat},fs.Nodup->(∀f,f∈fs->((f:Nat):Int)∈l)->(fs.map λf:Nat=>l.idxOf (f:Int)).Nodup
 |[],_,_=>by simp
 |f::fs,hn,h=>by
  simp only[List.map_cons,List.nodup_cons]at hn|-;refine⟨λhm=>?_,yT hn.2 (λg hg=>h g (by simp[hg]))⟩;obtain⟨g,hg,he⟩:=aZ.1 hm;have h1:=Hq (h g (by simp[hg]));have h2:=Hq (h f cE);rw[he,h2]at h1;have:f=g:=by have:=ay h1;omega
  exact hn.1 (this▸hg)
theorem Mm{l:List Int}{p:Nat}{v:Int}(h:l[p]? =some v):v∈l:=aD h
theorem eI.few(h:eI L M k){fs:List Nat}(hnd:fs.Nodup)(hmem:∀f,f∈fs->((f:Nat):Int)∈k.fr):fs.length<=L.n/\∀p:Nat,k.fr[p]? =some (-1)->fs.length<L.n:=by
 have h1:=yT hnd hmem;have h3:∀x,x∈fs.map (λf:Nat=>k.fr.idxOf (f:Int))->x<L.n:=λx hx=>by
  obtain⟨f,hf,rfl⟩:=aZ.1 hx;have:=List.idxOf_lt_length_of_mem (hmem f hf);rw[h.fr]at this;exact this
 refine⟨by have:=mO L.n _ h1 h3;rw[List.length_map]at this;exact this,λp hp=>?_⟩;have hpl:p<L.n:=by have:=(au.1 hp).1;rw[h.fr]at this;exact this
 have h2:=mO L.n (p::fs.map λf:Nat=>k.fr.idxOf (f:Int)) (List.nodup_cons.2 ⟨λhm=>by
  obtain⟨f,hf,he⟩:=aZ.1 hm;have:=Hq (hmem f hf);rw[he,hp]at this;have:=ay this;omega,h1⟩) (λx hx=>by
  rcases aJ.1 hx with rfl|hx
  .exact hpl
  exact h3 x hx)
 simp only[ak,List.length_map]at h2;omega
theorem eI.Og(h:eI L M k):(fC k.ow L.o 256).length<=L.n/\∀p:Nat,k.fr[p]? =some (-1)->(fC k.ow L.o 256).length<L.n:=by
 unfold fC;rw[List.length_map];refine h.few (List.filter_sublist.nodup List.nodup_range) (λf hf=>?_);rw[List.mem_filter,List.mem_range]at hf;have e:=eq_of_beq hf.2;rcases h.held f hf.1 with⟨-,h1⟩|⟨-, -,q,hq⟩|⟨h1,h2, -⟩
 .rw[h1]at e;have:=ay e;omega
 .exact Mm hq
 rw[fu.oth,<-h2,e]at h1;simp at h1
theorem eI.heldLt(h:eI L M k){p:Nat}(hp:k.fr[p]? =some (-1)):(fC k.ow L.o 256).length<L.n:=h.Og.2 p hp
theorem eI.free(h:eI L M k){p:Nat}(hp:k.fr[p]? =some (-1)):∃f,16<=f/\f<256/\k.ow[f]? =some (-1):=by
 apply Classical.byContradiction;intro hno;have h1:=(h.few (fs:=(List.range' 16 240).filter (λf=> !L.oth f)) (List.filter_sublist.nodup List.nodup_range') (λf hf=>by
  rw[List.mem_filter,List.mem_range'_1]at hf;rcases h.held f (by omega)with⟨-,h1⟩|⟨-, -,q,hq⟩|⟨h1, -⟩
  .exact absurd ⟨f,hf.1.1,by omega,h1⟩ hno
  .exact Mm hq
  rw[h1]at hf;cases hf.2)).2 p hp
 have:=h.cap;omega
theorem eI.at_(h:eI L M k){a:Nat}(ha:a<L.n*64):∃b,M.data[a]? =some b/\0<=b/\b<=255:=by
 have hl:a<M.data.length:=by rw[h.dl];exact ha
 refine⟨M.data[a],ai hl,h.db _ (List.getElem_mem hl)⟩
theorem eI.putF(h:eI L M k){p j f:Nat}{b:Int}(hj:j<64)(hb:0<=b/\b<=255)(hf:k.fr[p]? =some (f:Int)):eI L (M.put (p*64+j) b) {k with B:=k.B.set (f*64+j) b}:=by
 have hpl:p<L.n:=by have:=(au.1 hf).1;rw[h.fr]at this;exact this
 have hBl:=h.pl.b;have hf256:f<256:=by
  rcases h.MY p hpl with⟨h1,_⟩|⟨f',h1,h2,h3,_⟩
  .rw[hf]at h1;have:=ay h1;omega
  rw[hf]at h1;have:=ay h1;omega
 refine⟨⟨by rw[aC];exact h.pl.b,h.pl.ow,h.pl.pr⟩,h.o4,h.n1,h.n64,h.fr,h.gd,by show(M.data.set _ _).length=_;rw[aC];exact h.dl,by show(M.MS.set _ _).length=_;rw[aC];exact h.tl,?_,?_,h.inj,?_,h.prom,h.prs,h.cap⟩
 .intro x hx;rcases List.mem_or_eq_of_mem_set hx with h1|h1
  .exact h.db x h1
  rw[h1];exact hb
 .intro q hq;show(k.fr[q]? =some (-1)/\∀i,i<64->(M.data.set (p*64+j) b)[q*64+i]? =some 0)\/(∃g:Nat,k.fr[q]? =some (g:Int)/\16<=g/\g<256/\k.ow[g]? =some (L.o:Int)/\∀i,i<64->(k.B.set (f*64+j) b)[g*64+i]? =(M.data.set (p*64+j) b)[q*64+i]?);rcases h.MY q hq with⟨h1,h2⟩|⟨g,h1,h2,h3,h4,h5⟩
  .left;have hne:q≠p:=by rintro rfl;rw[hf]at h1;have:=ay h1;omega
   refine⟨h1,λi hi=>?_⟩;rw[aX Wq1];exact h2 i hi
  right;refine⟨g,h1,h2,h3,h4,λi hi=>?_⟩;by_cases hqp:q=p
  .subst hqp;have hg:g=f:=by rw[hf]at h1;have:=ay h1;omega
   subst hg;rw[List.getElem?_set,List.getElem?_set];by_cases hij:j=i
   .subst hij;have hdl:=h.dl;rw[if_pos rfl,if_pos rfl,if_pos Wq1,if_pos (by rw[hdl];omega)]
   rw[if_neg Wq1,if_neg Wq1];exact h5 i hi
  have hgf:g≠f:=by
   rintro rfl;exact hqp (h.inj q p g h1 hf)
  rw[aX Wq1,aX Wq1];exact h5 i hi
 intro g hg;show _\/_\/(_/\_/\∀i,i<64->(k.B.set (f*64+j) b)[g*64+i]? =_);rcases h.held g hg with h1|h1|⟨h1,h2,h3⟩
 .exact .inl h1
 .exact .inr (.inl h1)
 refine .inr (.inr ⟨h1,h2,λi hi=>?_⟩);have hgf:g≠f:=by
  rintro rfl;rcases h.MY p hpl with⟨h4,_⟩|⟨f',h4,_,_,h5,_⟩
  .rw[hf]at h4;have:=ay h4;omega
  rw[hf]at h4;obtain rfl:f'=g:=by have:=ay h4;omega
  rw[fu.oth,<-h2,h5]at h1;simp at h1
 rw[aX Wq1];exact h3 i hi
theorem eI.map(h:eI L M k){p f:Nat}(hp:p<L.n)(hf:k.fr[p]? =some (-1))(h16:16<=f)(h256:f<256)(hw:k.ow[f]? =some (-1)):eI L M {k with B:=eO k.B f,ow:=k.ow.set f L.o,fr:=k.fr.set p f}:=by
 have hBl:=h.pl.b;have howl:=h.pl.ow;have hfl:=h.fr;have hnof:∀q:Nat,k.fr[q]? ≠some (f:Int):=λq hq=>by
  have hql:q<L.n:=by have:=(au.1 hq).1;rw[h.fr]at this;exact this
  rcases h.MY q hql with⟨h1,_⟩|⟨g,h1,_,_,h4,_⟩
  .rw[hq]at h1;have:=ay h1;omega
  rw[hq]at h1;have:g=f:=by have:=ay h1;omega
  subst this;rw[hw]at h4;have:=ay h4;omega
 have hz:∀j,j<64->M.data[p*64+j]? =some 0:=by
  rcases h.MY p hp with⟨_,h2⟩|⟨g,h1,_⟩
  .exact h2
  rw[hf]at h1;have:=ay h1;omega
 refine⟨⟨vZ hBl h256,by rw[aC];exact h.pl.ow,h.pl.pr⟩,h.o4,h.n1,h.n64,by show(k.fr.set _ _).length=_;rw[aC];exact h.fr,h.gd,h.dl,h.tl,h.db,?_,?_,?_,h.prom,h.prs,h.cap⟩
 .intro q hq;show((k.fr.set p (f:Int))[q]? =some (-1)/\∀i,i<64->M.data[q*64+i]? =some 0)\/(∃g:Nat,(k.fr.set p (f:Int))[q]? =some (g:Int)/\16<=g/\g<256/\(k.ow.set f (L.o:Int))[g]? =some (L.o:Int)/\∀i,i<64->(eO k.B f)[g*64+i]? =M.data[q*64+i]?);by_cases hqp:q=p
  .subst hqp;right;refine⟨f,by rw[List.getElem?_set,if_pos rfl,if_pos Wq1],h16,h256,by rw[List.getElem?_set,if_pos rfl,if_pos Wq1],λi hi=>?_⟩;rw[xL hBl h256 hi,hz i hi]
  rw[aX Wq1];rcases h.MY q hq with h1|⟨g,h1,h2,h3,h4,h5⟩
  .exact .inl h1
  right;have hgf:g≠f:=by rintro rfl;exact hnof q h1
  refine⟨g,h1,h2,h3,by rw[aX Wq1];exact h4,λi hi=>?_⟩;rw[oK hBl h256 Wq1];exact h5 i hi
 .intro a b g ha hb;show a=b
  change (k.fr.set p (f:Int))[a]? =_ at ha
  change (k.fr.set p (f:Int))[b]? =_ at hb
  by_cases hap:a=p
  .by_cases hbp:b=p
   .omega
   subst hap;rw[List.getElem?_set,if_pos rfl,if_pos Wq1]at ha;rw[aX Wq1]at hb;have:f=g:=by have:=ay ha;omega
   subst this;exact absurd hb (hnof b)
  by_cases hbp:b=p
  .subst hbp;rw[List.getElem?_set,if_pos rfl,if_pos Wq1]at hb;rw[aX Wq1]at ha;have:f=g:=by have:=ay hb;omega
   subst this;exact absurd ha (hnof a)
  rw[aX Wq1]at ha hb;exact h.inj a b g ha hb
 intro g hg;show(_/\(k.ow.set f (L.o:Int))[g]? =some (-1))\/(_/\(k.ow.set f (L.o:Int))[g]? =some (L.o:Int)/\∃q:Nat,(k.fr.set p (f:Int))[q]? =some (g:Int))\/(_/\(k.ow.set f (L.o:Int))[g]? =_/\∀i,i<64->(eO k.B f)[g*64+i]? =_);have hhe:=h.held g hg;by_cases hgf:g=f
 .subst hgf;right;left;refine⟨?_,by rw[List.getElem?_set,if_pos rfl,if_pos Wq1],p,by rw[List.getElem?_set,if_pos rfl,if_pos Wq1]⟩;rcases hhe with h1|h1|⟨h1,h2, -⟩
  .exact h1.1
  .exact h1.1
  rw[fu.oth,<-h2,hw]at h1;cases h1
 rw[aX Wq1];rcases hhe with h1|⟨h0,h1,q,hq⟩|⟨h1,h2,h3⟩
 .exact .inl h1
 .right;left;refine⟨h0,h1,q,?_⟩;have:q≠p:=by rintro rfl;rw[hf]at hq;have:=ay hq;omega
  rw[aX Wq1];exact hq
 refine .inr (.inr ⟨h1,h2,λi hi=>?_⟩);rw[oK hBl h256 Wq1];exact h3 i hi
theorem eI.put0(h:eI L M k){p j:Nat}(hj:j<64)(hp:p<L.n)(hf:k.fr[p]? =some (-1)):eI L (M.put (p*64+j) 0) k:=by
 have hz:M.data[p*64+j]? =some 0:=by
  rcases h.MY p hp with⟨_,h2⟩|⟨g,h1,_⟩
  .exact h2 j hj
  rw[hf]at h1;have:=ay h1;omega
 have e:M.data.set (p*64+j) 0=M.data:=by
  apply List.ext_getElem?;intro i;rw[List.getElem?_set];split
  .rename_i hi;subst hi;have:=(au.1 hz).1;rw[if_pos this,hz]
  rfl
 unfold Mem.put;rw[e];exact⟨h.pl,h.o4,h.n1,h.n64,h.fr,h.gd,h.dl,by show(M.MS.set _ _).length=_;rw[aC];exact h.tl,h.db,h.MY,h.inj,h.held,h.prom,h.prs,h.cap⟩
theorem eI.calm(h:eI L M k):eI L M.calm k:=⟨h.pl,h.o4,h.n1,h.n64,h.fr,h.gd,h.dl,aI,h.db,h.MY,h.inj,h.held,h.prom,h.prs,h.cap⟩
end
def Mem.new(n:Nat):Mem:=⟨List.replicate (n*64) 0,List.replicate 64 false⟩
theorem eI.new{L:fu}(ho:L.o<4)(h1:1<=L.n)(h64:L.n<=64){pr:List Int}(hl:dF L.gB L.gw pr)(hg:L.gp=pr.set L.o L.n)(hno:∀x,x∈L.gw->x≠(L.o:Int))(hc:L.n<=((List.range' 16 240).filter (λf=> !L.oth f)).length):
  eI L (Mem.new L.n) ⟨L.gB,L.gw,L.gp,List.replicate L.n (-1),List.replicate L.n false⟩:=by
 refine⟨⟨hl.b,hl.ow,by rw[hg,aC];exact hl.pr⟩,ho,h1,h64,aI,aI,aI,aI,?_,?_,?_,?_,?_,rfl,hc⟩
 .intro x hx;have:=List.eq_of_mem_replicate hx;omega
 .intro p hp;left;refine⟨by rw[List.getElem?_replicate,if_pos hp],λj hj=>?_⟩;show(List.replicate (L.n*64) (0:Int))[p*64+j]? =_;rw[List.getElem?_replicate,if_pos Wq1]
 .intro p q f hp
  change (List.replicate L.n (-1:Int))[p]? =_ at hp
  rw[List.getElem?_replicate]at hp;split at hp
  .have:=ay hp;omega
  cases hp
 .intro f hf;have hfl:f<L.gw.length:=by rw[hl.ow];exact hf
  have hx:=ai hfl;have hn:=hno _ (List.getElem_mem hfl);unfold fu.oth;rw[hx];by_cases h2:L.gw[f]= -1
  .left;rw[h2];exact de
  refine .inr (.inr ⟨?_,rfl,λ_ _=>rfl⟩);simp[h2,hn]
 show L.gp[L.o]? =_;rw[hg,List.getElem?_set,if_pos rfl,if_pos (by rw[hl.pr];exact ho)]
theorem Ld{L:fu}{n:Nat}(h:n<=((List.range' 16 240).filter (λf=>L.gw[f]? ==some (-1))).length):n<=((List.range' 16 240).filter (λf=> !L.oth f)).length:=
 aW h (List.Sublist.length_le (by
  rw[show(List.range' 16 240).filter (λf=>L.gw[f]? ==some (-1))=((List.range' 16 240).filter (λf=> !L.oth f)).filter (λf=>L.gw[f]? ==some (-1)) by
   rw[List.filter_filter];refine List.filter_congr (λf _=>?_);unfold fu.oth;rcases hx:L.gw[f]? with _|x
   .rfl
   by_cases e:x= -1<;>simp[e]]
  exact List.filter_sublist))
end Go.Ink
namespace Go.Proofs.YtkegldppffignaaGreatDoor
open Go.RowKit Go.Ink Go.Proofs.Tryz
attribute [local irreducible] OpY bS
def fy(L:fu)(tu:List Bool):List Value:= .pointer (some ⟨L.bp,0,none⟩):: .pointer (some ⟨L.bt,0,none⟩)::(jV tu++[.bool false])
abbrev sZ(L:fu)(tu:List Bool):bL:=row L.bm (fy L tu) 128
theorem memCells_tu{L:fu}{tu:List Bool}{j:Nat}{b:Bool}(h:tu[j]? =some b):(fy L tu)[2+j]? =some (.bool b):=by
 have hj:=(au.1 h).1;unfold fy;rw[show 2+j=j+1+1 by omega,List.getElem?_cons_succ,List.getElem?_cons_succ,bG (by rw[jM];exact hj)];exact CM h
theorem s6{L:fu}{tu:List Bool}(h:tu.length=64):(fy L tu)[66]? =some (.bool false):=by
 unfold fy;rw[List.getElem?_cons_succ,List.getElem?_cons_succ,bC (by rw[jM];omega),jM,h]
 rfl
theorem jJ{L:fu}{tu:List Bool}(h:tu.length=64):(fy L tu).length=67:=by simp[fy,jM,h]
theorem mP{L:fu}{tu:List Bool}{j:Nat}(hj:j<tu.length)(b:Bool):(fy L tu).set (2+j) (.bool b)=fy L (tu.set j b):=by
 unfold fy;rw[show 2+j=j+1+1 by omega,List.set_cons_succ,List.set_cons_succ,List.set_append_left _ _ (by rw[jM];exact hj),zu]
theorem yJ{L:fu}{tu:List Bool}:((fy L tu).drop 2).take (jV tu).length=jV tu:=by
 unfold fy;simp
theorem xg{L:fu}{tu:List Bool}(h:tu.length=64):(fy L tu).take 2++List.replicate 64 (Value.bool false)++(fy L tu).drop (2+64)=fy L (List.replicate 64 false):=by
 unfold fy;have:(jV tu).length=64:=by rw[jM,h]
 rw[wT];simp[this]
def DU(L:fu)(tu:List Bool)(k:zL):List bL:=[dj L.bp k.B k.ow k.pr,iW L.bt L.bp L.o L.bf L.bg L.n,frC L.bf L.n k.fr,gdC L.bg L.n k.gd,sZ L tu]
abbrev eA(L:fu)(M:Mem):bL:=exC [L.bp,L.bt,L.bf,L.bg,L.bm] (DU L M.MS) Zrf (eI L M)
theorem mg{L:fu}{M:Mem}{w:World}(h:(eA L M).ok w):∃k,eI L M k/\(dj L.bp k.B k.ow k.pr).ok w/\(iW L.bt L.bp L.o L.bf L.bg L.n).ok w/\(frC L.bf L.n k.fr).ok w/\(sZ L M.MS).ok w:=by
 obtain⟨k,h1,h2⟩:=exC_ok h;exact⟨k,h1,h2 _ (.head _ _),h2 _ (.tail _ (.head _ _)),h2 _ (.tail _ (.tail _ (.head _ _))),h2 _ (.tail _ (.tail _ (.tail _ (.tail _ (.head _ _)))))⟩
theorem rS(bt bp o bf bg n:Nat)(w:World)(h:(iW bt bp o bf bg n).ok w):Ctr prog 72 [.pointer (some ⟨bt,0,none⟩)] w [] (λv cs=>v= .int .i64 n/\cs=[]):=by
 refine bN func72 rfl ntmps72 rfl (Inv.start w) ?_;refine dS ?_;refine uv ?_;refine Z_5 ?_;refine Zra ?_;exact de
theorem L7(bt bp o bf bg n p:Nat)(w:World)(h:(iW bt bp o bf bg n).ok w):Ctr prog 115 [.pointer (some ⟨bt,0,none⟩),.int .i64 p] w [] (λv cs=>v= .bool (decide (p<n))/\cs=[]):=by
 refine bN func115 rfl ntmps115 rfl (Inv.start w) ?_;refine gy ?_;refine iu (bR rfl rfl) (bQ Zrf (dh rfl)) (dy (by assumption) rfl) rfl ?_;refine Z_7 ?_;refine Zra ?_;rw[ax (show(0:Int)<=p by omega),show decide ((p:Int)<n)=decide (p<n)from decide_eq_decide.2 Wq1];exact de
def tN(f:Int):Value:=bif f== -1 then .tuple #[.int .i64 0,.bool false]else .tuple #[.int .i64 f,.bool true]
theorem ku(bt bp o bf bg n p:Nat)(fr:List Int)(f:Int)(hp:p<n)(hf:fr[p]? =some f)(w:World)(h:(iW bt bp o bf bg n).ok w)(h2:(frC bf n fr).ok w):
  Ctr prog 94 [.pointer (some ⟨bt,0,none⟩),.int .i64 p] w [] (λv cs=>v=tN f/\cs=[]):=by
 have hrd:=iB h2;refine bN func94 rfl ntmps94 rfl (Inv.start w) ?_;refine fE ?_;refine ZSe (λw hi=>L7 bt bp o bf bg n p w (bL.old h hi)) ?_;rw[ax hp];refine Z_5 ?_;refine iu (cy rfl rfl) (bQ Zrf (dh rfl)) (dy (by assumption) rfl) rfl ?_;refine ZB ?_;refine Zyn rfl rfl (dX (j:=p) rfl Zrf (dh rfl) (dh rfl) Wq4 Wq4) ?_;refine iu (cy rfl rfl) (bQ Zrf (dh rfl)) (eo hrd (cR hf)) rfl ?_;refine Z_4 ?_;refine ZW ?_ ?_<;>intro hc1
 .have hc:(f== -1)=true:=hc1;simp only[tN,hc,ac];refine Z_8 ?_;refine i9 ?_;exact de
 have hc:(f== -1)=false:=hc1;simp only[tN,hc,aa];refine Z_7 ?_;refine uv ?_;refine ZA ?_;refine Zy (dX (j:=p) rfl Zrf (Zv rfl) (Zv rfl) Wq4 Wq4) ?_;refine dN (bQ Zrf Zv0) (eo hrd (cR hf)) rfl ?_;refine Z_5 ?_;refine i9 ?_;exact de
theorem tmap_ok(bt bp o bf bg n p:Nat)(B ow pr fr:List Int)(hl:dF B ow pr)(ho:o<4)(hn:pr[o]? =some (n:Int))(hlt:(fC ow o 256).length<n)(f0:Nat)(h16:16<=f0)(h256:f0<256)(hf0:ow[f0]? =some (-1))(hp:p<n)(hf:fr[p]? =some (-1))(w:World)
  (hi:Inv w (bM [iW bt bp o bf bg n,frC bf n fr,dj bp B ow pr]) [iW bt bp o bf bg n,frC bf n fr,dj bp B ow pr] w):
  Ctr prog 111 [.pointer (some ⟨bt,0,none⟩),.int .i64 p] w [iW bt bp o bf bg n,frC bf n fr,dj bp B ow pr] (λv cs=>∃f:Nat,16<=f/\f<256/\ow[f]? =some (-1)/\v= .tuple #[.int .i64 f,.int .i64 0]/\cs=[dj bp (eO B f) (ow.set f o) pr,iW bt bp o bf bg n,frC bf n (fr.set p f)]):=by
 refine bN func111 rfl ntmps111 rfl hi ?_;refine fE ?_;refine ZSe (λw hi=>L7 bt bp o bf bg n p w (hi.get Zh)) ?_;rw[ax hp];refine Z_3 ?_;refine fS ?_;refine Z_7 ?_;refine ZSe (λw hi=>ku bt bp o bf bg n p fr (-1) hp hf w (hi.get Zh) (hi.get Zh)) ?_;refine gR ?_;refine fS ?_;refine Z_3 ?_;refine bU ⟨λj=>List.elem j [8],[]⟩ Zk ?_;refine gO ?_;refine ZFe 2 0 ?_;refine ZG 3 ?_;refine ZE 4 ?_;refine ZE 5 ?_;refine ZFe 6 1 ?_;refine ZG 7 ?_;refine cn 8 Zk ?_;refine ZcA ([dj bp B ow pr]) (λw hi hin=>take_ok bp B ow pr hl o ho n hn Wq1 f0 h16 h256 hf0 w hin) ?_;rintro _ _ ⟨_,⟨f,hf1,hf2,hf3,rfl,rfl⟩,rfl⟩;refine ZE 9 ?_;refine ZE 10 ?_;refine ZE 11 ?_;refine ZE 12 ?_;refine ZE 13 ?_;refine dx ?_;refine Z_8 ?_;refine bW rfl (rfl) ?_;refine Z_7 ?_;refine Zy (cw (j:=p) (sz:=1) (r:=p) rfl Zrf (Zv rfl) (Zv rfl) Wq4 Wq4 Wq1) ?_;refine dH (fh Zrf rfl rfl rfl Za Wq1) ?_;rintro _ _ ⟨rfl,rfl⟩;rw[eh];refine fE ?_;refine rx (cs':=[row _ _ _,row _ _ _,slv _ _ _ _ _ _]) (.inl rfl) Zu rfl rfl rfl ?_;exact⟨f,hf1,hf2,hf3,rfl,rfl⟩
end Go.Proofs.YtkegldppffignaaGreatDoor
namespace Go.Ink
open Go.RowKit
def gB(d:List Int)(a:Nat):Int:=d.getD a 0
theorem Ia{d:List Int}{a:Nat}(h:a<d.length):d[a]? =some (gB d a):=by simp[gB,h]
theorem ji{d:List Int}(h:u8s d)(a:Nat):0<=gB d a/\gB d a<=255:=by
 unfold gB;by_cases hl:a<d.length
 .rw[aF,ai hl];exact h _ (List.getElem_mem hl)
 rw[aF,List.getElem?_eq_none Wq1];simp
def rq(d:List Int)(a:Nat):Nat->Int
 |0=>0
 |k+1=>rq d a k*256+gB d (a+(3 - k))
def nU(d:List Int)(a:Nat):Int:=gB d a+256*gB d (a+1)+65536*gB d (a+2)+16777216*gB d (a+3)
theorem Di(d:List Int)(a:Nat):rq d a 4=nU d a:=by
 simp[rq,nU];omega
theorem xP{d:List Int}(h:u8s d)(a:Nat):∀k,0<=rq d a k/\rq d a k<256^k
 |0=>by simp[rq]
 |k+1=>by
  have h1:=xP h a k;have h2:=ji h (a+(3 - k));simp only[rq,Int.pow_succ];omega
theorem uU{d:List Int}(h:u8s d)(a:Nat):u32 (nU d a):=by
 have h1:=ji h a;have h2:=ji h (a+1);have h3:=ji h (a+2);have h4:=ji h (a+3);unfold nU;exact⟨by omega,by omega⟩
theorem Dh{d:List Int}(h:u8s d)(a:Nat){k:Nat}(hk:k<4):bits .or .u32 (IntKind.u32.wrap (rq d a k*2^(min (8:Int).toNat IntKind.u32.bits))) (gB d (a+(3 - k)))=rq d a (k+1):=by
 have h1:=xP h a k;have h2:=ji h (a+(3 - k));simp only[rq];generalize rq d a k=v at h1;have hv:0<=v/\v<16777216:=by
  obtain rfl|rfl|rfl|rfl:k=0\/k=1\/k=2\/k=3:=by omega
  all_goals (simp at h1;omega)
 have e1:(2:Int)^(min (8:Int).toNat IntKind.u32.bits)=256:=rfl;rw[e1,u32_wrap_id _ Wq1 Wq1];exact bits_join .u32 32 Wq5 wraps_u32 8 (v*256) _ Wq1 Wq1 Wq1 Wq1 Wq1 Wq1
def nR(v:Int)(k:Nat):Int:=v/256^k%256
theorem oO(v:Int)(k:Nat):0<=nR v k/\nR v k<=255:=by unfold nR;omega
theorem xO(v:Int){k:Nat}(hk:k<4):IntKind.u8.wrap (v.fdiv (2^(min (IntKind.u32.wrap (8*(k:Int))).toNat IntKind.u32.bits)))=nR v k:=by
 have e:∀n:Nat,v.fdiv (2^n)=v/2^n:=λn=>bl v (by exact Int.le_of_lt (Int.pow_pos Wq5))
 rw[e,IntKind.wrap_u8];unfold nR;obtain rfl|rfl|rfl|rfl:k=0\/k=1\/k=2\/k=3:=by omega
 all_goals rfl
def Mem.NI(M:Mem)(a:Nat)(v:Int):Nat->Mem
 |0=>M
 |k+1=>(Mem.NI M a v k).put (a+k) (nR v k)
def Mem.Nl(M:Mem)(a:Nat)(v:Int):Mem:=M.NI a v 4
def Mem.fill(M:Mem)(a:Nat)(l:List Int):Nat->Mem
 |0=>M
 |k+1=>(Mem.fill M a l k).put (a+k) (gB l k)
end Go.Ink
namespace Go.Proofs.YtkegldppffignaaGreatDoor
open Go.RowKit Go.Ink Go.Proofs.Tryz
attribute [local irreducible] OpY bS
theorem kR(L:fu)(M:Mem)(w:World)(h:(eA L M).ok w):Ctr prog 40 [.pointer (some ⟨L.bm,0,none⟩)] w [] (λv cs=>v= .int .u32 (L.n*64:Nat)/\cs=[]):=by
 obtain⟨k,hr,h1,h2,h3,h4⟩:=mg h;have n64:=hr.n64;refine bN func40 rfl ntmps40 rfl (Inv.start w) ?_;refine dS ?_;refine uv ?_;refine ZSe (λw hi=>rS L.bt L.bp L.o L.bf L.bg L.n w (bL.old h2 hi)) ?_;refine Zy (ce rfl rfl Zv0 rfl) ?_;refine Zy (jk (Zv rfl) (Zv rfl) (show IntKind.u32.wrap ((IntKind.u32.wrap (L.n:Int))*64)=((L.n*64:Nat):Int) by rw[u32_wrap_id (L.n:Int) Wq1 Wq1,u32_wrap_id _ Wq1 Wq1];omega)) ?_;refine Z_4 ?_;refine Zra ?_;exact de
theorem pi(a:Nat)(ha:a<=4294967295)(w:World):Ctr prog 93 [.int .u32 a] w [] (λv cs=>v= .tuple #[.int .i64 (a/64:Nat),.int .i64 (a%64:Nat)]/\cs=[]):=by
 refine bN func93 rfl ntmps93 rfl (Inv.start w) ?_;refine Z_9 ?_;refine Zy (kp (Zv rfl) (Zv rfl) Wq1 (show _=((a/64:Nat):Int)from by rw[bD Wq1,u32_wrap_id _ Wq1 Wq1];omega)) ?_;refine Zy (ce rfl rfl Zv0 Zl) ?_;refine ZA ?_;refine Zy (ij (Zv rfl) (Zv rfl) Wq1 (show _=((a%64:Nat):Int)from by rw[aG Wq1];omega)) ?_;refine Zy (ce rfl rfl Zv0 Zl) ?_;refine Z_5 ?_;refine i9 ?_;exact de
theorem vj(L:fu)(M:Mem)(a n:Nat)(ha:a<=4294967295)(hn:n<=1000)(w:World)(h:(eA L M).ok w):Ctr prog 68 [.pointer (some ⟨L.bm,0,none⟩),.int .u32 a,.int .i64 n] w [] (λv cs=>v= .bool (decide (a+n<=L.n*64))/\cs=[]):=by
 obtain⟨k,hr,_⟩:=mg h;have n64:=hr.n64;refine bN func68 rfl ntmps68 rfl (Inv.start w) ?_;refine Z_8 ?_;refine Zy (ce rfl rfl (Zv rfl) uw) ?_;refine ZA ?_;refine Zy (ce rfl rfl (Zv rfl) uw) ?_;refine Zy (df (Zv rfl) (Zv rfl) (IntWalk.u64_in _ ⟨by omega,by omega⟩)) ?_;refine ZA ?_;refine ZSe (λw hi=>kR L M w (bL.old h hi)) ?_;refine Zy (ce rfl rfl (Zv rfl) uw) ?_;refine Z_5 ?_;refine Zra ?_;rw[show decide ((a:Int)+n<=((L.n*64:Nat):Int))=decide (a+n<=L.n*64)from decide_eq_decide.2 Wq1];exact de
theorem oq(f:Nat):tN (f:Int)= .tuple #[.int .i64 f,.bool true]:=by
 unfold tN;rw[show((f:Int)== -1)=false by rw[beq_eq_false_iff_ne];omega]
 rfl
theorem wO(L:fu)(M:Mem)(a:Nat)(ha:a<L.n*64)(w:World)(h:(eA L M).ok w):Ctr prog 69 [.pointer (some ⟨L.bm,0,none⟩),.int .u32 a] w [] (λv cs=>v= .int .u8 (gB M.data a)/\cs=[]):=by
 obtain⟨k,hr,h1,h2,h3,h4⟩:=mg h;have n64:=hr.n64;have hp:a/64<L.n:=by omega
 have hj:a%64<64:=by omega
 have hdl:=hr.dl;have hda:M.data[a/64*64+a%64]? =some (gB M.data a):=by rw[show a/64*64+a%64=a by omega];exact Ia Wq1
 rcases hr.MY (a/64) hp with⟨f1,f2⟩|⟨f,f1,f2,f3,f4,f5⟩
 .have hz:gB M.data a=0:=by have:=f2 (a%64) hj;rw[hda]at this;exact ay this
  rw[hz];refine bN func69 rfl ntmps69 rfl (Inv.start w) ?_;refine Z_8 ?_;refine ZSe (λw hi=>pi a Wq1 w) ?_;refine gR ?_;refine uv ?_;refine ZA ?_;refine ZSe (λw hi=>ku L.bt L.bp L.o L.bf L.bg L.n (a/64) k.fr (-1) hp f1 w (bL.old h2 hi) (bL.old h3 hi)) ?_;refine gy ?_;refine bW rfl (rfl) ?_;refine Z_7 ?_;refine Zra ?_;exact de
 have hb:k.B[f*64+a%64]? =some (gB M.data a):=by rw[f5 _ hj,hda]
 refine bN func69 rfl ntmps69 rfl (Inv.start w) ?_;refine Z_8 ?_;refine ZSe (λw hi=>pi a Wq1 w) ?_;refine gR ?_;refine uv ?_;refine ZA ?_;refine ZSe (λw hi=>ku L.bt L.bp L.o L.bf L.bg L.n (a/64) k.fr f hp f1 w (bL.old h2 hi) (bL.old h3 hi)) ?_;rw[oq];refine gy ?_;refine fS ?_;refine Z_7 ?_;refine uv ?_;refine Z_2 ?_;refine ZSe (λw hi=>Kp L.bp k.B k.ow k.pr hr.pl f (a%64) L.o _ f2 f3 f4 Wq1 hj hb w (bL.old h1 hi)) ?_;refine gy ?_;refine Zra ?_;exact de
theorem rput_in(L:fu)(M:Mem)(a:Nat)(ha:a<L.n*64)(b:Int)(hb:0<=b/\b<=255)(w:World)(k:zL)(hr:eI L M k)(hi:Inv w (bM (DU L M.MS k)) (DU L M.MS k) w):
  Ctr prog 82 [.pointer (some ⟨L.bm,0,none⟩),.int .u32 a,.int .u8 b] w (DU L M.MS k) (λv cs=>v= .bool true/\∃k',eI L (M.put a b) k'/\cs=DU L (M.put a b).MS k'):=by
 have n64:=hr.n64;have o4:=hr.o4;have hp:a/64<L.n:=by omega
 have hj:a%64<64:=by omega
 have hdl:=hr.dl;have htl:=hr.tl;have ea:a/64*64+a%64=a:=by omega
 obtain⟨hb0,hb1⟩:=hb;have his:∀w0 S w,Inv w0 S (DU L M.MS k) w->(eA L M).ok w:=λw0 S w hi=>(hi.NB (rest:=[]) (bs:=[L.bp,L.bt,L.bf,L.bg,L.bm]) (F:=DU L M.MS) (hb:=λ_=>rfl) (p:=eI L M) k hr).ok _ (List.mem_cons_self ..)
 rcases hr.MY (a/64) hp with⟨f1,f2⟩|⟨f,f1,f2,f3,f4,f5⟩
 .by_cases hb0':b=0
  .subst hb0';have hfin:=hr.put0 hj hp f1;rw[ea]at hfin;refine bN func82 rfl ntmps82 rfl hi ?_;unfold DU at his|-;refine dS ?_;refine ZSe (λw hi=>vj L M a 1 Wq1 Wq1 w (his _ _ w hi)) ?_;rw[ax (show a+1<=L.n*64 by omega)];refine Z_3 ?_;refine fS ?_;refine Z_5 ?_;refine ZSe (λw hi=>pi a Wq1 w) ?_;refine gy ?_;refine ZSe (λw hi=>ku L.bt L.bp L.o L.bf L.bg L.n (a/64) k.fr (-1) hp f1 w (hi.get Zh) (hi.get Zh)) ?_;refine Bn ?_;refine fS ?_;refine Z_8 ?_;refine Zy (cX (j:=(a/64)) (sz:=1) (r:=2+a/64) rfl Zrf (Zv rfl) (Zv rfl) Wq4 Wq4 Wq1) ?_;refine dH (eK Zrf rfl rfl rfl Za (by rw[jJ htl];omega)) ?_;rintro _ _ ⟨rfl,rfl⟩;rw[mP Wq1];refine gy ?_;refine eZ (cy rfl rfl) rfl rfl ?_;refine Zy (y_or (q:=false) (Zv rfl) ⟨_,rfl,λ_ e=>by simp at e⟩) ?_;refine Z_4 ?_;refine Zrb ([row _ _ _,row _ _ _,slv _ _ _ _ _ _,slv _ _ _ _ _ _,row _ _ _]) ?_;exact⟨rfl,k,hfin,rfl⟩
  obtain⟨f0,g1,g2,g3⟩:=hr.free f1;refine bN func82 rfl ntmps82 rfl hi ?_;unfold DU at his|-;refine dS ?_;refine ZSe (λw hi=>vj L M a 1 Wq1 Wq1 w (his _ _ w hi)) ?_;rw[ax (show a+1<=L.n*64 by omega)];refine Z_3 ?_;refine fS ?_;refine Z_5 ?_;refine ZSe (λw hi=>pi a Wq1 w) ?_;refine gy ?_;refine ZSe (λw hi=>ku L.bt L.bp L.o L.bf L.bg L.n (a/64) k.fr (-1) hp f1 w (hi.get Zh) (hi.get Zh)) ?_;refine Bn ?_;refine bW rfl ((by rw[show(b !=0)=true by simp[hb0']];rfl)) ?_;refine dS ?_;refine ZFa 66 ?_;refine dN (bQ Zrf Zv0) (cu (o:=66) Zh (s6 htl)) rfl ?_;refine Z_2 ?_;refine fS ?_;refine dS ?_;refine ZcL ([iW L.bt L.bp L.o L.bf L.bg L.n,frC L.bf L.n k.fr,dj L.bp k.B k.ow k.pr]) (λw hi hin=>tmap_ok L.bt L.bp L.o L.bf L.bg L.n (a/64) k.B k.ow k.pr k.fr hr.pl o4 hr.prom (hr.heldLt f1) f0 g1 g2 g3 hp f1 w hin) ?_;rintro _ _ ⟨_,⟨f,m1,m2,m3,rfl,rfl⟩,rfl⟩;have hmap:=hr.map hp f1 m1 m2 m3;have hfin:=hmap.putF (j:=a%64) (b:=b) (f:=f) hj ⟨hb0,hb1⟩ (show(k.fr.set (a/64) (f:Int))[a/64]? =_ by rw[List.getElem?_set,if_pos rfl,if_pos (by rw[hr.fr];exact hp)]);rw[ea]at hfin;have hpl':=hmap.pl;refine jd ?_;refine fS ?_;refine gR ?_;refine Zy (cX (j:=(a/64)) (sz:=1) (r:=2+a/64) rfl Zrf (Zv rfl) (Zv rfl) Wq4 Wq4 Wq1) ?_;refine dH (eK Zrf rfl rfl rfl Za (by rw[jJ htl];omega)) ?_;rintro _ _ ⟨rfl,rfl⟩;rw[mP Wq1];refine gy ?_;refine fF (cy rfl rfl) rfl (dY ([dj L.bp (eO k.B f) (k.ow.set f L.o) k.pr]) rfl (λ_ _=>rfl) Zi (λw hi hin=>Gj L.bp (eO k.B f) (k.ow.set f L.o) k.pr hpl' f (a%64) L.o b m1 m2 (show(k.ow.set f (L.o:Int))[f]? =some (L.o:Int) by rw[List.getElem?_set,if_pos rfl,if_pos (by rw[hr.pl.ow];exact m2)]) Wq1 hj w hin)) rfl ?_;rintro _ _ ⟨_,⟨rfl,rfl⟩,rfl⟩;refine Z_5 ?_;refine bP [dj L.bp ((eO k.B f).set (f*64+a%64) b) (k.ow.set f L.o) k.pr,iW L.bt L.bp L.o L.bf L.bg L.n,frC L.bf L.n (k.fr.set (a/64) f),gdC L.bg L.n k.gd,sZ L (M.MS.set (a/64) true)] Zj ?_;refine Zrb ([row _ _ _,row _ _ _,slv _ _ _ _ _ _,slv _ _ _ _ _ _,row _ _ _]) ?_;exact⟨rfl,_,hfin,rfl⟩
 have hfin:=hr.putF (j:=a%64) (b:=b) hj ⟨hb0,hb1⟩ f1;rw[ea]at hfin;refine bN func82 rfl ntmps82 rfl hi ?_;unfold DU at his|-;refine dS ?_;refine ZSe (λw hi=>vj L M a 1 Wq1 Wq1 w (his _ _ w hi)) ?_;rw[ax (show a+1<=L.n*64 by omega)];refine Z_3 ?_;refine fS ?_;refine Z_5 ?_;refine ZSe (λw hi=>pi a Wq1 w) ?_;refine gy ?_;refine ZSe (λw hi=>ku L.bt L.bp L.o L.bf L.bg L.n (a/64) k.fr f hp f1 w (hi.get Zh) (hi.get Zh)) ?_;rw[oq];refine Bn ?_;refine fS ?_;refine Z_8 ?_;refine Zy (cX (j:=(a/64)) (sz:=1) (r:=2+a/64) rfl Zrf (Zv rfl) (Zv rfl) Wq4 Wq4 Wq1) ?_;refine dH (eK Zrf rfl rfl rfl Za (by rw[jJ htl];omega)) ?_;rintro _ _ ⟨rfl,rfl⟩;rw[mP Wq1];refine gy ?_;refine fF (cy rfl rfl) rfl (dY ([dj L.bp k.B k.ow k.pr]) rfl (λ_ _=>rfl) Zi (λw hi hin=>Gj L.bp k.B k.ow k.pr hr.pl f (a%64) L.o b f2 f3 f4 Wq1 hj w hin)) rfl ?_;rintro _ _ ⟨_,⟨rfl,rfl⟩,rfl⟩;refine Z_5 ?_;refine bP [dj L.bp (k.B.set (f*64+a%64) b) k.ow k.pr,iW L.bt L.bp L.o L.bf L.bg L.n,frC L.bf L.n k.fr,gdC L.bg L.n k.gd,sZ L (M.MS.set (a/64) true)] Zj ?_;refine Zrb ([row _ _ _,row _ _ _,slv _ _ _ _ _ _,slv _ _ _ _ _ _,row _ _ _]) ?_;exact⟨rfl,_,hfin,rfl⟩
end Go.Proofs.YtkegldppffignaaGreatDoor
namespace Go.Ink
open Go.RowKit
def cpy(d:List Int)(o n k:Nat):List Int:=(List.range k).map (λj=>gB d (o+j))++List.replicate (n - k) 0
theorem CG(d:List Int)(o n:Nat):cpy d o n 0=List.replicate n 0:=by simp[cpy]
theorem IJ(d:List Int)(o:Nat){n k:Nat}(h:k<n):(cpy d o n k).set k (gB d (o+k))=cpy d o n (k+1):=by
 unfold cpy;rw[List.set_append_right _ _ cE,List.length_map,List.length_range,Nat.sub_self,show n - k=(n - (k+1))+1 by omega,List.replicate_succ,List.set_cons_zero,List.range_succ,List.map_append,ap]
 rfl
theorem IK{d:List Int}{o n:Nat}(h:o+n<=d.length):cpy d o n n=(d.drop o).take n:=by
 unfold cpy;rw[Nat.sub_self,List.replicate_zero,az];apply List.ext_getElem?;intro j;rw[bh,List.getElem?_take,List.getElem?_drop];by_cases hj:j<n
 .rw[List.getElem?_range hj,if_pos hj,Ia Wq1]
  rfl
 rw[List.getElem?_eq_none (by simp;omega),if_neg hj]
 rfl
def ik(tu:List Bool)(k:Nat):List Int:=((List.range k).filter (λf=>tu.getD f false)).map (λf:Nat=>(f:Int))
theorem u6(tu:List Bool)(k:Nat):ik tu (k+1)=ik tu k++(bif tu.getD k false then[(k:Int)]else[]):=by
 unfold ik;rw[List.range_succ,List.filter_append,List.map_append];congr 1;cases h:tu.getD k false<;>simp only[List.filter_cons,h,List.filter_nil,if_true,List.map_cons,List.map_nil,ac,aa,Bool.false_eq_true,if_false]
theorem Jz(tu:List Bool)(k:Nat):(ik tu k).length<=k:=by
 unfold ik;rw[List.length_map];exact aW (List.length_filter_le _ _) cE
theorem ED{l:List Bool}{j:Nat}(h:j<l.length):(jV l)[j]? =some (.bool (l.getD j false)):=by
 apply CM;simp[h]
theorem zf(M:Mem)(l:List Int):∀k,k<=l.length->l.length<=M.data.length->(M.fill 0 l k).data=l.take k++M.data.drop k
 |0,_,_=>by simp[Mem.fill]
 |k+1,h,h2=>by
  have ih:=zf M l k Wq1 h2;rw[Mem.fill];show(M.fill 0 l k).data.set (0+k) (gB l k)=_;rw[ih,bE,List.set_append_right _ _ (by rw[aB];omega),aB,show k - min k l.length=0 by omega];have e1:M.data.drop k=M.data[k]'(by omega)::M.data.drop (k+1):=List.drop_eq_getElem_cons Wq1;have e2:l.take (k+1)=l.take k++[gB l k]:=by
   rw[List.take_add_one,Ia Wq1]
   rfl
  rw[e1,List.set_cons_zero,e2,ap]
  rfl
def Mem.init(n:Nat)(b:List Int):Mem:=⟨b++List.replicate (n*64 - b.length) 0,List.replicate 64 false⟩
theorem Mem.init_eq{n:Nat}{b:List Int}(h:b.length<=n*64):((Mem.new n).fill 0 b b.length).calm=Mem.init n b:=by
 unfold Mem.calm Mem.init;rw[zf _ _ _ (aM _) (by simp[Mem.new];exact h),bn];simp[Mem.new]
end Go.Ink
namespace Go.Proofs.YtkegldppffignaaGreatDoor
open Go.RowKit Go.Ink Go.Proofs.Tryz
attribute [local irreducible] OpY bS
theorem wL(L:fu)(M:Mem)(a:Nat)(ha:a<L.n*64)(b:Int)(hb:0<=b/\b<=255)(w:World)(hi:Inv w (bM [eA L M]) [eA L M] w):
  Ctr prog 82 [.pointer (some ⟨L.bm,0,none⟩),.int .u32 a,.int .u8 b] w [eA L M] (λv cs=>v= .bool true/\cs=[eA L (M.put a b)]):=
 ctr_E hi λk hr hi'=>rput_in L M a ha b hb w k hr hi'
theorem mj{L:fu}{M:Mem}{w:World}(h:(eA L M).ok w):1<=L.n/\L.n<=64/\M.data.length=L.n*64/\u8s M.data/\M.MS.length=64:=by
 obtain⟨k,hr,_⟩:=mg h;exact⟨hr.n1,hr.n64,hr.dl,hr.db,hr.tl⟩
theorem Kb(L:fu)(M:Mem)(a:Nat)(ha:a<L.n*64)(w:World)(h:(eA L M).ok w):Ctr prog 271 [.pointer (some ⟨L.bm,0,none⟩),.int .u32 a] w [] (λv cs=>v= .tuple #[.int .u8 (gB M.data a),.bool true]/\cs=[]):=by
 obtain⟨n1,n64,_⟩:=mj h;refine bN func271 rfl ntmps271 rfl (Inv.start w) ?_;refine fE ?_;refine ZSe (λw hi=>vj L M a 1 Wq1 Wq1 w (bL.old h hi)) ?_;rw[ax (show a+1<=L.n*64 by omega)];refine Z_3 ?_;refine fS ?_;refine Z_6 ?_;refine ZSe (λw hi=>wO L M a ha w (bL.old h hi)) ?_;refine Z_5 ?_;refine i9 ?_;exact de
def wc(L:fu)(M:Mem)(a:Nat):Value:=bif decide (a+4<=L.n*64)then .tuple #[.int .u32 (nU M.data a),.bool true]else .tuple #[.int .u32 0,.bool false]
theorem rL(L:fu)(M:Mem)(a:Nat)(ha:a<=4294967295)(w:World)(h:(eA L M).ok w):Ctr prog 34 [.pointer (some ⟨L.bm,0,none⟩),.int .u32 a] w [] (λv cs=>v=wc L M a/\cs=[]):=by
 obtain⟨n1,n64,hdl,hdb,htl⟩:=mj h;refine bN func34 rfl ntmps34 rfl (Inv.start w) ?_;refine fE ?_;refine ZSe (λw hi=>vj L M a 4 ha Wq1 w (bL.old h hi)) ?_;refine Z_3 ?_;refine ZW ?_ ?_<;>intro hc1
 .have hc:decide (a+4<=L.n*64)=false:=by simpa using hc1
  refine Z_8 ?_;refine i9 ?_;unfold wc;rw[hc];exact de
 have hc:decide (a+4<=L.n*64)=true:=by simpa using hc1
 have hle:a+4<=L.n*64:=of_decide_eq_true hc;refine gy ?_;refine cq (λi:Nat=>[(0,.pointer (some ⟨L.bm,0,none⟩)),(1,.int .u32 a),(6,.int .u32 (rq M.data a i)),(7,.int .u32 (4 - (i:Int)))]) (λ_=>[]) (λi=>i<=4) (λi=>4 - i) (0) ?_ ?_ ?_ ?_
 .exact aq _
 .exact Zwk
 .exact Zu
 rintro i hik;refine Z_7 ?_;refine ZW ?_ ?_<;>intro hc5
 .simp only[aj]at hc5;have hi4:i<4:=by omega
  have ha3:a+(3 - i)<L.n*64:=by omega
  refine Z_6 ?_;refine Zy (v7 (Zv rfl) (Zv rfl) Wq1 rfl) ?_;refine Z_3 ?_;refine Zy (df (Zv rfl) (Zv rfl) (u32_wrap_id _ Wq1 Wq1)) ?_;refine Zy (eE (Zv rfl) (Zv rfl) (show IntKind.u32.wrap ((a:Int)+(4 - (i:Int)) - 1)=((a+(3 - i):Nat):Int) by rw[u32_wrap_id _ Wq1 Wq1];omega)) ?_;refine ZSe (λw hi=>wO L M (a+(3 - i)) ha3 w (bL.old h hi)) ?_;have hg:=ji hdb (a+(3 - i));refine Zy (ce rfl rfl (Zv rfl) (by first|exact IntWalk.u32_in _ ⟨by omega,by omega⟩|exact rfl)) ?_;refine Zy (CX Zv0 Zv0 (Dh hdb a hi4)) ?_;refine Z_6 ?_;refine Zy (eE (Zv rfl) (Zv rfl) (u32_wrap_id _ Wq1 Wq1)) ?_;refine Z_2 ?_;refine dW (i+1) ?_ ?_ ?_
  .exact⟨by omega,by omega⟩
  .exact Zwk
  exact Zu
 simp only[ah]at hc5;obtain rfl:i=4:=by omega
 refine jd ?_;refine i9 ?_;unfold wc;rw[hc,Di];exact de
theorem oa(L:fu)(M:Mem)(a:Nat)(v:Int)(ha:a+4<=L.n*64)(hv:u32 v)(w:World)(hi:Inv w (bM [eA L M]) [eA L M] w):
  Ctr prog 210 [.pointer (some ⟨L.bm,0,none⟩),.int .u32 a,.int .u32 v] w [eA L M] (λv' cs=>v'= .bool true/\cs=[eA L (M.Nl a v)]):=by
 obtain⟨n1,n64,hdl,hdb,htl⟩:=mj (hi.ok _ (List.mem_cons_self ..));refine bN func210 rfl ntmps210 rfl hi ?_;refine dS ?_;refine ZSe (λw hi=>vj L M a 4 Wq1 Wq1 w (hi.get Zh)) ?_;rw[ax ha];refine Z_3 ?_;refine fS ?_;refine gy ?_;refine cq (λk:Nat=>[(0,.pointer (some ⟨L.bm,0,none⟩)),(1,.int .u32 a),(2,.int .u32 v),(7,.bool true),(13,.int .u32 (k:Int))]) (λk=>[eA L (M.NI a v k)]) (λk=>k<=4) (λk=>4 - k) (0) ?_ ?_ ?_ ?_
 .exact aq _
 .exact Zwk
 .exact Zu
 rintro k hk;refine Z_6 ?_;refine ZW ?_ ?_<;>intro hc5
 .simp only[aj]at hc5;have hk4:k<4:=by omega
  refine gy ?_;refine Zy (df (Zv rfl) (Zv rfl) (show IntKind.u32.wrap ((a:Int)+(k:Int))=((a+k:Nat):Int) by rw[u32_wrap_id _ Wq1 Wq1];omega)) ?_;refine Z_2 ?_;refine Zy (jk Zv0 Zv0 rfl) ?_;refine Zy (ko (Zv rfl) (Zv rfl) (by rw[aE];omega) rfl) ?_;refine Zy (ce rfl rfl Zv0 (xO v hk4)) ?_;refine ZcM ([eA L (M.NI a v k)]) (λw hi hin=>wL L (M.NI a v k) (a+k) Wq1 (nR v k) (oO v k) w hin) ?_;refine Z_8 ?_;refine Zy (df (Zv rfl) (Zv rfl) (u32_wrap_id _ Wq1 Wq1)) ?_;refine Z_2 ?_;refine dW (k+1) ?_ ?_ ?_
  .exact⟨by omega,by omega⟩
  .exact Zwk
  exact Zu
 simp only[ah]at hc5;obtain rfl:k=4:=by omega
 refine gR ?_;refine Zrb ([exC _ _ _ _]) ?_;exact de
theorem wN(L:fu)(M:Mem)(p:Nat)(hp:p<L.n)(w:World)(h:(eA L M).ok w):Ctr prog 128 [.pointer (some ⟨L.bm,0,none⟩),.int .i64 p] w [] (λv cs=>∃b,v= .tuple #[.slice (some ⟨b,0,none⟩) 64 64,.bool true]/\cs=[sl .u8 5 (some ⟨b,0,none⟩) 64 64 ((M.data.drop (p*64)).take 64)]):=by
 obtain⟨n1,n64,hdl,hdb,htl⟩:=mj h;obtain⟨k0,hr0,h1,h2,h3,h4⟩:=mg h;refine bN func128 rfl ntmps128 rfl (Inv.start w) ?_;refine fE ?_;rw[aw (show¬(p:Int)<0 by omega)];refine Z_5 ?_;refine iu (cy rfl rfl) (bQ Zrf (dh rfl)) (dy (by assumption) rfl) rfl ?_;refine fF (cy rfl rfl) rfl (cU rfl (λ_ _=>rfl) (λw hi=>rS L.bt L.bp L.o L.bf L.bg L.n w (bL.old h2 hi))) rfl ?_;rintro _ _ ⟨_,⟨rfl,rfl⟩,rfl⟩;refine Z_4 ?_;refine dc rfl ((by rw[aw (show¬(L.n:Int)<=p by omega)];rfl)) ?_;refine Z_4 ?_;refine gj (kO (bytes:=1) (n:=64) rfl rfl rfl rfl rfl rfl rfl Wq1 gS) rfl ?_;rintro _ _ ⟨b19,rfl,rfl⟩;rw[oe,<-CG M.data (p*64) 64];refine gR ?_;refine cq (λk:Nat=>[(0,.pointer (some ⟨L.bm,0,none⟩)),(1,.int .i64 p),(6,.slice (some ⟨b19,0,none⟩) 64 64),(21,.int .i64 64),(22,.int .i64 (k:Int))]) (λk=>[sl .u8 5 (some ⟨b19,0,none⟩) 64 64 (cpy M.data (p*64) 64 k)]) (λk=>k<=64) (λk=>64 - k) (0) ?_ ?_ ?_ ?_
 .exact aq _
 .exact Zwk
 .exact Zu
 rintro k hk;refine Z_6 ?_;refine ZW ?_ ?_<;>intro hc5
 .simp only[aj]at hc5;have hpk:p*64+k<L.n*64:=by omega
  refine rj ?_;refine Zy (jk Zv0 Zv0 Zl) ?_;refine ZA ?_;refine Zy (df Zv0 Zv0 Zl) ?_;refine Zy (ce rfl rfl (Zv rfl) (show IntKind.u32.wrap ((p:Int)*64+(k:Int))=((p*64+k:Nat):Int) by rw[u32_wrap_id _ Wq1 Wq1];omega)) ?_;refine ZSe (λw hi=>wO L M (p*64+k) hpk w (bL.old h hi)) ?_;refine Zy (cw (j:=k) (sz:=1) (r:=k) rfl Zrf (Zv rfl) (Zv rfl) Wq4 Wq4 Wq1) ?_;refine dH (fh Zrf rfl rfl rfl Za Wq1) ?_;rintro _ _ ⟨rfl,rfl⟩;rw[eh,IJ _ _ Wq1];refine Z_4 ?_;refine Wq8 ?_;refine dW (k+1) ?_ ?_ ?_
  .exact⟨by omega,by omega⟩
  .exact Zwk
  exact Zu
 simp only[ah]at hc5;obtain rfl:k=64:=by omega
 rw[IK Wq1];refine jd ?_;refine rx (cs':=[slv _ _ _ _ _ _]) (.inl rfl) Zu rfl rfl rfl ?_;exact⟨b19,rfl,rfl⟩
theorem Aj(L:fu)(M:Mem)(p:Nat)(hp:p<L.n)(A:Option Addr)(c:Nat)(l:List Int)(hl:l.length=64)(hb:u8s l)(w:World)(hi:Inv w (bM [eA L M]) [eA L M] w)(hrd:∀w',dG (bM [eA L M]) w w'->Rd w' .u8 A 64 c l):
  Ctr prog 275 [.pointer (some ⟨L.bm,0,none⟩),.int .i64 p,.slice A 64 c] w [eA L M] (λv' cs=>v'= .bool true/\cs=[eA L (M.fill (p*64) l 64)]):=by
 obtain⟨n1,n64,hdl,hdb,htl⟩:=mj (hi.ok _ (List.mem_cons_self ..));have hrw:=hrd w (dG.refl _ _);obtain⟨ad,rfl⟩:=hrw.some_ Wq1;have hpg:∀w0 S cs w,Inv w0 S cs w->Has cs (eA L M)->Ctr prog 72 [.pointer (some ⟨L.bt,0,none⟩)] w [] (λv cs=>v= .int .i64 L.n/\cs=[]):=λw0 S cs w hi hc=>by
  obtain⟨k0,hr0,h1,h2,h3,h4⟩:=mg (hi.get hc);exact rS L.bt L.bp L.o L.bf L.bg L.n w h2
 have hcell:∀w,Inv w (bM [eA L M]) [eA L M] w->True:=λ_ _=>trivial
 refine bN func275 rfl ntmps275 rfl hi ?_;refine dS ?_;rw[aw (show¬(p:Int)<0 by omega)];refine Z_5 ?_;refine iu (cy rfl rfl) (bQ Zrf (dh rfl)) (λw hi=>by obtain⟨k0,hr0,h1,h2,h3,h4⟩:=mg (hi.get (show Has _ (eA L M)from Zh));exact dy (cs:=[]) h4 (show(fy L M.MS)[1]? =some (.pointer (some ⟨L.bt,0,none⟩))from rfl) w (Inv.start w)) rfl ?_;refine fF (cy rfl rfl) rfl (cU rfl (λ_ _=>rfl) (λw hi=>hpg _ _ _ w hi Zh)) rfl ?_;rintro _ _ ⟨_,⟨rfl,rfl⟩,rfl⟩;refine Z_9 ?_;refine dc rfl ((by rw[aw (show¬(L.n:Int)<=p by omega)];rfl)) ?_;refine ri ?_;refine cq (λk:Nat=>[(0,.pointer (some ⟨L.bm,0,none⟩)),(1,.int .i64 p),(7,.bool true),(26,.slice (some ad) 64 c),(27,.int .i64 64),(28,.int .i64 (k:Int))]) (λk=>[eA L (M.fill (p*64) l k)]) (λk=>k<=64) (λk=>64 - k) (0) ?_ ?_ ?_ ?_
 .exact aq _
 .exact Zwk
 .exact Zu
 rintro k hk;refine Z_6 ?_;refine ZW ?_ ?_<;>intro hc5
 .simp only[aj]at hc5;have hkl:k<l.length:=by omega
  have hbk:=ji hb k;refine Z_7 ?_;refine uR ?_;refine dN (bQ Zrf Zv0) (pv hrd (cR (Ia hkl))) rfl ?_;refine Z_7 ?_;refine Zy (jk Zv0 Zv0 Zl) ?_;refine ZA ?_;refine Zy (df Zv0 Zv0 Zl) ?_;refine Zy (ce rfl rfl (Zv rfl) (show IntKind.u32.wrap ((p:Int)*64+(k:Int))=((p*64+k:Nat):Int) by rw[u32_wrap_id _ Wq1 Wq1];omega)) ?_;refine ZA ?_;refine ZcM ([eA L (M.fill (p*64) l k)]) (λw hi hin=>wL L (M.fill (p*64) l k) (p*64+k) Wq1 (gB l k) hbk w hin) ?_;refine Z_8 ?_;refine Wq8 ?_;refine dW (k+1) ?_ ?_ ?_
  .exact⟨by omega,by omega⟩
  .exact Zwk
  exact Zu
 simp only[ah]at hc5;obtain rfl:k=64:=by omega
 refine gR ?_;refine Zrb ([exC _ _ _ _]) ?_;exact de
theorem J3(L:fu)(M:Mem)(A:Option Addr)(c:Nat)(l:List Int)(hl:l.length<=L.n*64)(hb:u8s l)(w:World)(hi:Inv w (bM [eA L M]) [eA L M] w)(hrd:∀w',dG (bM [eA L M]) w w'->Rd w' .u8 A l.length c l):
  Ctr prog 52 [.pointer (some ⟨L.bm,0,none⟩),.slice A l.length c] w [eA L M] (λv' cs=>v'= .int .i64 0/\cs=[eA L (M.fill 0 l l.length)]):=by
 obtain⟨n1,n64,hdl,hdb,htl⟩:=mj (hi.ok _ (List.mem_cons_self ..));have hrw:=hrd w (dG.refl _ _);refine bN func52 rfl ntmps52 rfl hi ?_;refine fE ?_;refine ZSe (λw hi=>kR L M w (hi.get Zh)) ?_;refine Zy (ce rfl rfl Zv0 Zl) ?_;refine Z_3 ?_;refine dc rfl ((aw Wq1)) ?_;refine fE ?_;refine cq (λk:Nat=>[(0,.pointer (some ⟨L.bm,0,none⟩)),(13,.slice A l.length c),(14,.int .i64 l.length),(15,.int .i64 (k:Int))]) (λk=>[eA L (M.fill 0 l k)]) (λk=>k<=l.length) (λk=>l.length - k) (0) ?_ ?_ ?_ ?_
 .exact aq _
 .exact Zwk
 .exact Zu
 rintro k hk;refine Z_6 ?_;refine ZW ?_ ?_<;>intro hc4
 .simp only[aj]at hc4;have hkl:k<l.length:=by omega
  have hbk:=ji hb k;obtain⟨ad,rfl⟩:=hrw.some_ Wq1;refine Z_7 ?_;refine uR ?_;refine dN (bQ Zrf Zv0) (pv hrd (cR (Ia hkl))) rfl ?_;refine Z_7 ?_;refine Zy (ce rfl rfl (Zv rfl) (show IntKind.u32.wrap (k:Int)=((0+k:Nat):Int) by rw[u32_wrap_id _ Wq1 Wq1];omega)) ?_;refine ZA ?_;refine ZcM ([eA L (M.fill 0 l k)]) (λw hi hin=>wL L (M.fill 0 l k) (0+k) Wq1 (gB l k) hbk w hin) ?_;refine Z_4 ?_;refine Wq8 ?_;refine dW (k+1) ?_ ?_ ?_
  .exact⟨by omega,by omega⟩
  .exact Zwk
  exact Zu
 simp only[ah]at hc4;obtain rfl:k=l.length:=by omega
 refine fE ?_;refine Zrb ([exC _ _ _ _]) ?_;exact de
theorem rall_ok(L:fu)(M:Mem)(w:World)(h:(eA L M).ok w):Ctr prog 60 [.pointer (some ⟨L.bm,0,none⟩)] w [] (λv cs=>∃b,v= .slice (some ⟨b,0,none⟩) M.data.length M.data.length/\cs=[sl .u8 5 (some ⟨b,0,none⟩) M.data.length M.data.length M.data]):=by
 obtain⟨n1,n64,hdl,hdb,htl⟩:=mj h;rw[hdl];refine bN func60 rfl ntmps60 rfl (Inv.start w) ?_;refine Z_8 ?_;refine ZSe (λw hi=>kR L M w (bL.old h hi)) ?_;refine gj (kO (bytes:=1) (n:=L.n*64) rfl rfl rfl rfl rfl rfl rfl Wq1 gS) rfl ?_;rintro _ _ ⟨b7,rfl,rfl⟩;rw[oe,<-CG M.data 0 (L.n*64)];refine gR ?_;refine cq (λk:Nat=>[(0,.pointer (some ⟨L.bm,0,none⟩)),(3,.slice (some ⟨b7,0,none⟩) (L.n*64) (L.n*64)),(9,.int .i64 (L.n*64:Nat)),(10,.int .i64 (k:Int))]) (λk=>[sl .u8 5 (some ⟨b7,0,none⟩) (L.n*64) (L.n*64) (cpy M.data 0 (L.n*64) k)]) (λk=>k<=L.n*64) (λk=>L.n*64 - k) (0) ?_ ?_ ?_ ?_
 .exact aq _
 .exact Zwk
 .exact Zu
 rintro k hk;refine Z_6 ?_;refine ZW ?_ ?_<;>intro hc3
 .simp only[aj]at hc3;have hpk:0+k<L.n*64:=by omega
  refine rj ?_;refine Zy (ce rfl rfl (Zv rfl) (show IntKind.u32.wrap (k:Int)=((0+k:Nat):Int) by rw[u32_wrap_id _ Wq1 Wq1];omega)) ?_;refine ZSe (λw hi=>wO L M (0+k) hpk w (bL.old h hi)) ?_;refine Zy (cw (j:=k) (sz:=1) (r:=k) rfl Zrf (Zv rfl) (Zv rfl) Wq4 Wq4 Wq1) ?_;refine dH (fh Zrf rfl rfl rfl Za Wq1) ?_;rintro _ _ ⟨rfl,rfl⟩;rw[eh,IJ _ _ Wq1];refine Z_4 ?_;refine Wq8 ?_;refine dW (k+1) ?_ ?_ ?_
  .exact⟨by omega,by omega⟩
  .exact Zwk
  exact Zu
 simp only[ah]at hc3;obtain rfl:k=L.n*64:=by omega
 rw[IK Wq1,List.drop_zero,List.take_of_length_le Wq1];refine gR ?_;refine Zrb ([slv _ _ _ _ _ _]) ?_;exact⟨b7,rfl,rfl⟩
theorem qi(L:fu)(M:Mem)(w:World)(h:(eA L M).ok w):Ctr prog 44 [.pointer (some ⟨L.bm,0,none⟩)] w [] (λv cs=>∃A c,v= .slice A (ik M.MS 64).length c/\cs=[sl .i64 3 A (ik M.MS 64).length c (ik M.MS 64)]):=by
 obtain⟨n1,n64,hdl,hdb,htl⟩:=mj h;obtain⟨k0,hr0,h1,h2,h3,h4⟩:=mg h;refine bN func44 rfl ntmps44 rfl (Inv.start w) ?_;refine ri ?_;refine dN (cz (vs:=jV M.MS) Zrf (λw=>by rw[jM,htl];rfl) (Zv rfl)) (rT (o:=2) h4 yJ) rfl ?_;refine dC 3 1 ?_;refine Z_4 ?_;refine cq (λs:Nat×Option Addr×Nat=>[(0,.pointer (some ⟨L.bm,0,none⟩)),(3,.slice s.2.1 (ik M.MS s.1).length s.2.2),(9,.agg (jV M.MS).toArray),(10,.int .i64 (s.1:Int))]) (λs=>[sl .i64 3 s.2.1 (ik M.MS s.1).length s.2.2 (ik M.MS s.1)]) (λs=>s.1<=64) (λs=>64 - s.1) ((0,none,0)) ?_ ?_ ?_ ?_
 .exact aq _
 .exact Zwk
 .exact Zu
 rintro⟨k,A1,c1⟩ hk;simp only at hk;dsimp only;refine Z_6 ?_;refine ZW ?_ ?_<;>intro hc3
 .simp only[aj]at hc3;have hle:=Jz M.MS k;refine Z_7 ?_;refine Zy (Bq (j:=k) rfl Zrf Zrf (Zv rfl) (Zv rfl) Wq4 Wq4 (λ_=>ED (show k<M.MS.length by omega))) ?_;refine Z_9 ?_;refine ZW ?_ ?_<;>intro hc5
  .have he:ik M.MS (k+1)=ik M.MS k++[(k:Int)]:=by rw[u6,hc5];rfl
   refine Z_3 ?_;refine jO ?_;rintro _ _ ⟨b17,rfl,rfl⟩;refine gj (cD (e:=3) (sz:=1) (bytes:=8) rfl rfl Za rfl rfl (λw hi=>hi.rd Zh) (jA rfl) gS Wq1) rfl ?_;rintro _ _ ⟨A2,c2,rfl,rfl⟩;rw[show(ik M.MS k).length+1=(ik M.MS (k+1)).length by(rw[he];simp),show ints .i64 (ik M.MS k)++[Value.int .i64 (k:Int)]=ints .i64 (ik M.MS (k+1)) by(rw[he];exact cj _ [_])];refine Z_5 ?_;refine Wq8 ?_;refine dW ((k+1,A2,c2)) ?_ ?_ ?_
   .exact⟨by show k+1<=64;omega,by show 64 - (k+1)<64 - k;omega⟩
   .exact Zwk
   exact Zu
  have he:ik M.MS (k+1)=ik M.MS k:=by(rw[u6,hc5];simp)
  rw[<-he];refine Z_4 ?_;refine Wq8 ?_;refine dW ((k+1,A1,c1)) ?_ ?_ ?_
  .exact⟨by show k+1<=64;omega,by show 64 - (k+1)<64 - k;omega⟩
  .exact Zwk
  exact Zu
 simp only[ah]at hc3;obtain rfl:k=64:=by omega
 refine gR ?_;refine Zrb ([slv _ _ _ _ _ _]) ?_;exact⟨_,_,rfl,rfl⟩
theorem BW(L:fu)(M:Mem)(w:World)(hi:Inv w (bM [eA L M]) [eA L M] w):Ctr prog 131 [.pointer (some ⟨L.bm,0,none⟩)] w [eA L M] (λv cs=>v= .tuple #[]/\cs=[eA L M.calm]):=by
 refine ctr_E hi λk hr hi'=>?_
 have htl:=hr.tl;refine bN func131 rfl ntmps131 rfl hi' ?_;unfold DU;refine Z_2 ?_;refine Zy (iP (vs:=List.replicate 64 (Value.bool false)) Zk (.inr ⟨_,_,_,rfl,λ_=>rfl⟩)) ?_;refine Z_2 ?_;refine dH (kv (n:=64) Zrf rfl rfl (λu hu=>by rw[List.eq_of_mem_replicate hu];rfl) Za (aI) (by rw[jJ htl,aI];omega)) ?_;rintro _ _ ⟨rfl,rfl⟩;rw[aI,xg htl];refine Zn (jb (cs':=[row _ _ _,row _ _ _,slv _ _ _ _ _ _,slv _ _ _ _ _ _,row _ _ _]) (.inr rfl) Zu rfl ?_);exact⟨rfl,k,hr.calm,rfl⟩
theorem rnew_ok(bp bt:Nat)(w:World):Ctr prog 51 [.pointer (some ⟨bp,0,none⟩),.pointer (some ⟨bt,0,none⟩)] w [] (λv cs=>∃bm,v= .tuple #[.pointer (some ⟨bm,0,none⟩),.int .i64 0]/\cs=[sZ ⟨bp,bt,0,0,bm,0,0,[],[],[]⟩ (List.replicate 64 false)]):=by
 refine bN func51 rfl ntmps51 rfl (Inv.start w) ?_;refine xF ?_;refine fS ?_;refine Z_7 ?_;refine ZO λb15=>?_
 refine Z_5 ?_;refine rx (cs':=[row _ _ _]) (.inl rfl) Zu rfl rfl rfl ?_;exact⟨_,rfl,rfl⟩
end Go.Proofs.YtkegldppffignaaGreatDoor
namespace Go.Ink
open Go.RowKit
structure TE where
 valid:Bool
 vpn:Int
 pfn:Int
 bits:Int
structure TE.wf(e:TE):Prop where
 vpn:u32 e.vpn
 pfn:u32 e.pfn
 bits:u32 e.bits
def TE.zero:TE:=⟨false,0,0,0⟩
def TE.cells(e:TE):List Value:=[.bool e.valid,.int .u32 e.vpn,.int .u32 e.pfn,.int .u32 e.bits]
def fQ(T:List TE):List Value:=T.flatMap TE.cells
structure Tr where
 MR:Int
 addr:Int
def Tr.none:Tr:=⟨0,0⟩
abbrev Tr.cells(t:Tr):List Value:=[.int .i64 t.MR,.int .u32 t.addr]
abbrev Tr.v(t:Tr):Value:= .agg t.cells.toArray
abbrev TE.v(e:TE):Value:= .agg e.cells.toArray
theorem iI:∀T:List TE,(fQ T).length=T.length*4
 |[]=>rfl
 |e::T=>by
  have:=iI T;simp only[fQ]at this;simp[fQ,TE.cells,this];omega
theorem kN:∀{T:List TE} {i:Nat} {e:TE},T[i]? =some e->((fQ T).drop (i*4)).take 4=e.cells
 |[],i,e,h=>by simp at h
 |x::T,0,e,h=>by
  simp only[List.getElem?_cons_zero,aU]at h;subst h
  rfl
 |x::T,i+1,e,h=>by
  simp only[List.getElem?_cons_succ]at h;have:=kN h;simp only[fQ,List.flatMap_cons]at this|-;rw[show(i+1)*4=i*4+4 by omega,<-List.drop_drop,show(TE.cells x++T.flatMap TE.cells).drop (i*4)=(TE.cells x++T.flatMap TE.cells).drop (i*4)from rfl];rw[List.drop_drop,show i*4+4=(TE.cells x).length+i*4 by simp[TE.cells];omega,<-List.drop_drop,List.drop_left];exact this
theorem mB:∀{T:List TE} {i:Nat} (e:TE),i<T.length->(fQ T).take (i*4)++e.cells++(fQ T).drop (i*4+4)=fQ (T.set i e)
 |[],i,e,h=>by simp at h
 |x::T,0,e,_=>by simp[fQ,TE.cells]
 |x::T,i+1,e,h=>by
  have ih:=mB (T:=T) (i:=i) e (by simpa using h);simp only[fQ,List.set_cons_succ,List.flatMap_cons]at ih|-;have hl:(TE.cells x).length=4:=rfl;rw[show(i+1)*4=(TE.cells x).length+i*4 by rw[hl];omega,List.take_length_add_append,show(TE.cells x).length+i*4+4=(TE.cells x).length+(i*4+4) by omega,List.drop_length_add_append,ap,ap,<-ap _ _ (List.drop _ _),ih]
def iZ(b:Int)(MQ:Bool):Int:=bif MQ then b else bits .or .u32 b 16
def asked(kind:Int)(MQ:Bool):Int×Bool:=
 bif kind==1 then(iZ 8 MQ,true)else bif kind==2 then(iZ 2 MQ,true)else bif kind==3 then(iZ 68 MQ,true)else(0,false)
def fault(kind:Int):Int:=bif kind==1 then 7 else bif kind==2 then 8 else bif kind==3 then 9 else 0
def oP(kind:Int)(MQ:Bool):Int:=
 iZ (bif kind==1 then bits .or .u32 1 8 else bif kind==2 then bits .or .u32 1 2 else bif kind==3 then bits .or .u32 1 4 else 1) MQ
def z5(T:List TE)(va:Nat):TE:=T.getD (va/64%16) TE.zero
def om(e:TE)(va:Nat)(a:Int×Bool):Bool:=((!a.2|| !e.valid)||(e.vpn !=((va/64:Nat):Int)))||(bits .and .u32 e.bits a.1 !=a.1)
def qT(pfn:Int)(va:Nat):Int:=IntKind.u32.wrap (IntKind.u32.wrap (pfn*64)+((va%64:Nat):Int))
def uJ(T:List TE)(va:Nat)(kind:Int)(MQ:Bool):Int×Bool:=
 bif om (z5 T va) va (asked kind MQ)then(0,false)else(qT (z5 T va).pfn va,true)
def FH(T:List TE)(e:TE):List TE:=bif e.valid then T.set (e.vpn.toNat%16) e else T
def uK(T:List TE)(va:Nat):List TE:=bif(z5 T va).vpn==((va/64:Nat):Int)then T.set (va/64%16) TE.zero else T
def dz:List TE:=List.replicate 16 TE.zero
def kG(n:Nat)(d:List Int)(a:Nat):Option Int:=bif decide (a+4<=n*64)then some (nU d a)else none
def at1(root va:Nat):Nat:=root/64*64+4*(va/1024%16)
def at2(e:Int)(va:Nat):Nat:=(e/256).toNat*64+4*(va/64%16)
def AN(n:Nat)(d:List Int)(va:Nat)(e:Int):Option (Nat×Int):=
 bif e%2==0 then none else(kG n d (at2 e va)).map λl=>(at2 e va,l)
def mT(n:Nat)(d:List Int)(root va:Nat):Option (Nat×Int):=
 bif decide (16384<=va)then none else(kG n d (at1 root va)).bind (AN n d va)
def lookV(r:Option (Nat×Int)):Value:=match r with|some (a,l)=> .tuple #[.int .u32 a,.int .u32 l,.bool true]|none=> .tuple #[.int .u32 0,.int .u32 0,.bool false]
def nV(l:Int)(kind:Int):Int:=bif kind==3 then bits .or .u32 (bits .or .u32 l 32) 64 else bits .or .u32 l 32
def leafE(va:Nat)(l:Int):TE:=⟨true,((va/64:Nat):Int),l/256,bits .and .u32 l 94⟩
def ic(n:Nat)(M:Mem)(root va:Nat)(kind:Int)(MQ:Bool):(TE×Tr)×Mem:=
 bif fault kind==0 then((TE.zero,⟨10,va⟩),M)else
 match mT n M.data root va with
 |none=>((TE.zero,⟨fault kind,va⟩),M)
 |some (a,l)=>bif bits .and .u32 l (oP kind MQ) !=oP kind MQ then((TE.zero,⟨fault kind,va⟩),M)else
   ((leafE va (nV l kind),Tr.none),bif nV l kind !=l then M.Nl a (nV l kind)else M)
structure Mmu where
 m:Mem
 t:List TE
structure Sp where
 MU:Bool
 MQ:Bool
 root:Nat
abbrev Sp.v(s:Sp):Value:= .agg #[.bool s.MU,.bool s.MQ,.int .u32 (s.root:Int)]
def dg(n:Nat)(U:Mmu)(s:Sp)(va:Nat)(kind:Int):(Int×Tr)×Mmu:=
 bif !s.MU then(((va:Int),Tr.none),U)else
 bif(uJ U.t va kind s.MQ).2 then(((uJ U.t va kind s.MQ).1,Tr.none),U)else
 bif(ic n U.m s.root va kind s.MQ).1.2.MR !=0 then((0,(ic n U.m s.root va kind s.MQ).1.2),⟨(ic n U.m s.root va kind s.MQ).2,U.t⟩)else
 ((qT (ic n U.m s.root va kind s.MQ).1.1.pfn va,(ic n U.m s.root va kind s.MQ).1.2),⟨(ic n U.m s.root va kind s.MQ).2,FH U.t (ic n U.m s.root va kind s.MQ).1.1⟩)
def ry(a:Int):Bool:=decide (32768<=a)&&decide (a<33024)
def cP(n:Nat)(U:Mmu)(s:Sp)(va:Nat)(kind:Int):(Int×Tr)×Mmu:=
 bif fault kind==0 then((0,⟨10,va⟩),U)else
 bif(dg n U s va kind).1.2.MR !=0 then((0,(dg n U s va kind).1.2),(dg n U s va kind).2)else
 bif(decide ((dg n U s va kind).1.1<((n*64:Nat):Int))||((kind !=1)&&ry (dg n U s va kind).1.1))then dg n U s va kind else((0,⟨10,va⟩),(dg n U s va kind).2)
end Go.Ink
namespace Go.Proofs.YtkegldppffignaaGreatDoor
open Go.RowKit Go.Ink Go.Proofs.Tryz
attribute [local irreducible] OpY bS
abbrev uI(bb:Nat)(T:List TE):bL:=row bb (fQ T) 201
theorem rQ(v:Nat)(w:World):Ctr prog 206 [.int .u32 v] w [] (λx cs=>x= .int .u32 (v%16:Nat)/\cs=[]):=by
 refine bN func206 rfl ntmps206 rfl (Inv.start w) ?_;refine Z_8 ?_;refine Zy (ij (Zv rfl) (Zv rfl) Wq1 (show _=((v%16:Nat):Int)from by rw[aG Wq1];omega)) ?_;refine Z_4 ?_;refine Zra ?_;exact de
theorem FJ(kind:Int)(MQ:Bool)(w:World):Ctr prog 207 [.int .i64 kind,.bool MQ] w [] (λx cs=>x= .tuple #[.int .u32 (asked kind MQ).1,.bool (asked kind MQ).2]/\cs=[]):=by
 refine bN func207 rfl ntmps207 rfl (Inv.start w) ?_;refine mn ?_;refine Z_4 ?_;refine ZW ?_ ?_<;>intro hc4
 .refine gR ?_;refine ZW ?_ ?_<;>intro hc10
  .have hs:MQ=false:=by simpa using hc10
   refine gy ?_;refine i9 ?_;refine⟨?_,rfl⟩;simp only[asked,iZ, *,ac,aa]
  have hs:MQ=true:=by simpa using hc10
  refine dS ?_;refine i9 ?_;refine⟨?_,rfl⟩;simp only[asked,iZ, *,ac,aa]
 refine Z_6 ?_;refine ZW ?_ ?_<;>intro hc6
 .refine gR ?_;refine ZW ?_ ?_<;>intro hc10
  .have hs:MQ=false:=by simpa using hc10
   refine gy ?_;refine i9 ?_;refine⟨?_,rfl⟩;simp only[asked,iZ, *,ac,aa]
  have hs:MQ=true:=by simpa using hc10
  refine dS ?_;refine i9 ?_;refine⟨?_,rfl⟩;simp only[asked,iZ, *,ac,aa]
 refine Z_6 ?_;refine ZW ?_ ?_<;>intro hc8
 .refine gR ?_;refine ZW ?_ ?_<;>intro hc10
  .have hs:MQ=false:=by simpa using hc10
   refine gy ?_;refine i9 ?_;refine⟨?_,rfl⟩;simp only[asked,iZ, *,ac,aa]
  have hs:MQ=true:=by simpa using hc10
  refine dS ?_;refine i9 ?_;refine⟨?_,rfl⟩;simp only[asked,iZ, *,ac,aa]
 refine Z_9 ?_;refine i9 ?_;refine⟨?_,rfl⟩;simp only[asked,iZ, *,ac,aa]
theorem FC(w:World):Ctr prog 87 [] w [] (λx cs=>∃bb,x= .pointer (some ⟨bb,0,none⟩)/\cs=[uI bb dz]):=by
 refine bN func87 rfl ntmps87 rfl (Inv.start w) ?_;refine Z_7 ?_;refine Zy (iP (vs:=fQ dz) Zk (.inl ⟨_,rfl,rfl⟩)) ?_;refine ZO λb2=>?_
 refine Z_4 ?_;refine Zrb ([row _ _ _]) ?_;exact⟨_,rfl,rfl⟩
theorem JG(bb:Nat)(T:List TE)(hT:T.length=16)(va:Nat)(hva:va<=4294967295)(kind:Int)(MQ:Bool)(w:World)(h:(uI bb T).ok w):Ctr prog 164 [.pointer (some ⟨bb,0,none⟩),.int .u32 va,.int .i64 kind,.bool MQ] w [] (λx cs=>x= .tuple #[.int .u32 (uJ T va kind MQ).1,.bool (uJ T va kind MQ).2]/\cs=[]):=by
 have hlt:va/64%16<T.length:=by omega
 have he:T[va/64%16]? =some (z5 T va):=by simp[z5,hlt]
 obtain⟨e,hee⟩:=Zgn (z5 T va);obtain⟨a,ha⟩:=Zgn (asked kind MQ);have hA:=FJ kind MQ;unfold uJ;rw[hee]at he|-;rw[ha]at hA|-;refine bN func164 rfl ntmps164 rfl (Inv.start w) ?_;refine Z_9 ?_;refine Zy (kp (Zv rfl) (Zv rfl) Wq1 (show _=((va/64:Nat):Int)from by rw[bD Wq1,u32_wrap_id _ Wq1 Wq1];omega)) ?_;refine Z_4 ?_;refine bU ⟨λj=>List.elem j [8],[]⟩ Zk ?_;refine gO ?_;refine ZE 3 ?_;refine ZFe 4 0 ?_;refine k8 2 7 Zk ?_ ?_
 .refine ZT (λw hi=>rQ (va/64) w) ?_;rintro _ _ ⟨_,⟨rfl,rfl⟩,rfl⟩;refine cG 5 rfl Zk Zk Zk (cX (j:=(va/64%16)) (sz:=4) (r:=(va/64%16)*4) rfl Zrf (Zv rfl) (Zv rfl) Wq4 Wq4 Wq1) rfl ?_;refine dD 6 rfl Zk Zk Zk Zk (cz (vs:=e.cells) Zrf Zrf Zv0) (rT (o:=(va/64%16)*4) h (kN he)) rfl ?_;refine cn 7 Zk ?_;refine ZP λb11=>?_
  refine cn 8 Zk ?_;refine ZR ?_;refine dx ?_;refine Z_5 ?_;refine ZSe (λw hi=>hA w) ?_;refine mn ?_;refine jd ?_;refine ZW ?_ ?_<;>intro hc4
  .have hc:om e va a=true:=hc4;refine Z_8 ?_;refine i9 ?_;rw[hc];exact de
  have hc:om e va a=false:=hc4;refine Z_6 ?_;refine Zy (jk Zv0 Zv0 rfl) ?_;refine ZA ?_;refine Zy (ij (Zv rfl) (Zv rfl) Wq1 (show _=((va%64:Nat):Int)from by rw[aG Wq1];omega)) ?_;refine Zy (df Zv0 Zv0 rfl) ?_;refine Z_5 ?_;refine i9 ?_;rw[hc];exact de
 refine ZP λb11=>?_
 refine cn 2 Zk ?_;refine ZT (λw hi=>rQ (va/64) w) ?_;rintro _ _ ⟨_,⟨rfl,rfl⟩,rfl⟩;refine cG 5 rfl Zk Zk Zk (cX (j:=(va/64%16)) (sz:=4) (r:=(va/64%16)*4) rfl Zrf (Zv rfl) (Zv rfl) Wq4 Wq4 Wq1) rfl ?_;refine dD 6 rfl Zk Zk Zk Zk (cz (vs:=e.cells) Zrf Zrf Zv0) (rT (o:=(va/64%16)*4) h (kN he)) rfl ?_;refine cn 8 Zk ?_;refine ZR ?_;refine dx ?_;refine Z_5 ?_;refine ZSe (λw hi=>hA w) ?_;refine mn ?_;refine jd ?_;refine ZW ?_ ?_<;>intro hc4
 .have hc:om e va a=true:=hc4;refine Z_8 ?_;refine i9 ?_;rw[hc];exact de
 have hc:om e va a=false:=hc4;refine Z_6 ?_;refine Zy (jk Zv0 Zv0 rfl) ?_;refine ZA ?_;refine Zy (ij (Zv rfl) (Zv rfl) Wq1 (show _=((va%64:Nat):Int)from by rw[aG Wq1];omega)) ?_;refine Zy (df Zv0 Zv0 rfl) ?_;refine Z_5 ?_;refine i9 ?_;rw[hc];exact de
theorem JH(bb:Nat)(T:List TE)(hT:T.length=16)(e:TE)(he:e.wf)(w:World)(hi:Inv w (bM [uI bb T]) [uI bb T] w):Ctr prog 166 [.pointer (some ⟨bb,0,none⟩),e.v] w [uI bb T] (λx cs=>x= .bool e.valid/\cs=[uI bb (FH T e)]):=by
 obtain⟨v0,v1⟩:=he.vpn;obtain⟨vp,hvp⟩:=ar v0;obtain⟨ev,evpn,epfn,eb⟩:=e;simp only at hvp v0 v1;subst hvp;refine bN func166 rfl ntmps166 rfl hi ?_;refine Z_2 ?_;refine ZO λb3=>?_;refine dS ?_;refine ZW ?_ ?_<;>intro hc1
 .have hv:ev=true:=hc1;subst hv;refine bU ⟨λj=>List.elem j [8],[]⟩ Zk ?_;refine ZE 0 ?_;refine ZFe 1 1 ?_;refine ZG 2 ?_;refine ZI 4 ?_;refine ZE 5 ?_;refine ZFe 6 0 ?_;refine cn 3 Zk ?_;refine ZT (λw hi=>rQ vp w) ?_;rintro _ _ ⟨_,⟨rfl,rfl⟩,rfl⟩;refine cG 7 rfl Zk Zk Zk (cX (j:=(vp%16)) (sz:=4) (r:=(vp%16)*4) rfl Zrf (Zv rfl) (Zv rfl) (λ_=>by omega) (λ_=>by omega) (by omega)) rfl ?_;refine cn 8 Zk ?_;refine du rfl rfl (kv (n:=4) (vs:=TE.cells ⟨true,(vp:Int),epfn,eb⟩) Zrf rfl rfl (jA rfl) Za rfl (by rw[iI];simp only[TE.cells,ak,ao];omega)) ZJ ?_;rintro _ _ ⟨rfl,rfl⟩;rw[show(TE.cells ⟨true,(vp:Int),epfn,eb⟩).length=4 from rfl,mB (T:=T) (i:=vp%16) ⟨true,(vp:Int),epfn,eb⟩ (by omega)];refine dx ?_;refine Z_9 ?_;refine Zrb ([row _ _ _]) ?_;exact de
 have hv:ev=false:=hc1;subst hv;refine dS ?_;refine Zrb ([row _ _ _]) ?_;exact de
theorem JI(bb:Nat)(T:List TE)(hT:T.length=16)(va:Nat)(hva:va<=4294967295)(w:World)(hi:Inv w (bM [uI bb T]) [uI bb T] w):Ctr prog 249 [.pointer (some ⟨bb,0,none⟩),.int .u32 va] w [uI bb T] (λx cs=>x= .tuple #[]/\cs=[uI bb (uK T va)]):=by
 have hlt:va/64%16<T.length:=by omega
 have he:T[va/64%16]? =some (z5 T va):=by simp[z5,hlt]
 have hcell:(fQ T)[(va/64%16)*4+1]? =some (.int .u32 (z5 T va).vpn):=by
  have h1:=kN he;have h2:(((fQ T).drop ((va/64%16)*4)).take 4)[1]? =some (.int .u32 (z5 T va).vpn):=by rw[h1];rfl
  rw[List.getElem?_take,if_pos (by omega),List.getElem?_drop]at h2;exact h2
 unfold uK;obtain⟨e,hee⟩:=Zgn (z5 T va);rw[hee]at hcell|-;refine bN func249 rfl ntmps249 rfl hi ?_;refine Z_3 ?_;refine Zy (kp (Zv rfl) (Zv rfl) (by omega) (show _=((va/64:Nat):Int)from by rw[bD (by omega),u32_wrap_id _ (by omega) (by omega)];omega)) ?_;refine Z_4 ?_;refine bU ⟨λj=>List.elem j [],[]⟩ Zk ?_;refine gO ?_;refine ZE 3 ?_;refine ZFe 4 0 ?_;refine cn 2 Zk ?_;refine ZT (λw hi=>rQ (va/64) w) ?_;rintro _ _ ⟨_,⟨rfl,rfl⟩,rfl⟩;refine cG 5 rfl Zk Zk Zk (cX (j:=(va/64%16)) (sz:=4) (r:=(va/64%16)*4) rfl Zrf (Zv rfl) (Zv rfl) (λ_=>by omega) (λ_=>by omega) (by omega)) rfl ?_;refine ZE 6 ?_;refine dx ?_;refine Z_6 ?_;refine dN (bQ Zrf Zv0) (cu Zh hcell) rfl ?_;refine Z_4 ?_;refine ZW ?_ ?_<;>intro hc2
 .rw[hc2];refine Z_4 ?_;refine dH (kv (n:=4) (vs:=TE.zero.cells) Zrf rfl rfl (jA rfl) Za rfl (by rw[iI];simp only[TE.cells,ak,ao];omega)) ?_;rintro _ _ ⟨rfl,rfl⟩;rw[show TE.zero.cells.length=4 from rfl,mB (T:=T) TE.zero hlt];refine Zn (jb (cs':=[row _ _ _]) (.inr rfl) Zu rfl ?_);exact de
 rw[hc2];refine Zc (jb (cs':=[row _ _ _]) (.inr rfl) Zu rfl ?_);exact de
theorem FF(bb:Nat)(T:List TE)(hT:T.length=16)(w:World)(hi:Inv w (bM [uI bb T]) [uI bb T] w):Ctr prog 248 [.pointer (some ⟨bb,0,none⟩)] w [uI bb T] (λx cs=>x= .tuple #[]/\cs=[uI bb dz]):=by
 refine bN func248 rfl ntmps248 rfl hi ?_;refine Z_2 ?_;refine Zy (iP (vs:=fQ dz) Zk (.inr ⟨_,_,_,rfl,λ_=>rfl⟩)) ?_;refine Z_2 ?_;refine dH (kv (n:=64) Zrf rfl rfl (jA Zk) Za Zk (by rw[iI,iI,hT];decide)) ?_;rintro _ _ ⟨rfl,rfl⟩;rw[show(fQ dz).length=64 by kernel_rfl,List.take_zero,aO,List.drop_eq_nil_of_le (by rw[iI,hT];decide),az];refine Zn (jb (cs':=[row _ _ _]) (.inr rfl) Zu rfl ?_);exact de
theorem CA(kind:Int)(w:World):Ctr prog 143 [.int .i64 kind] w [] (λx cs=>x= .int .i64 (fault kind)/\cs=[]):=by
 refine bN func143 rfl ntmps143 rfl (Inv.start w) ?_;refine Bn ?_;refine ZW ?_ ?_<;>intro hc2
 .refine fX ?_;refine⟨?_,rfl⟩;simp only[fault, *,ac,aa]
 refine Z_6 ?_;refine ZW ?_ ?_<;>intro hc4
 .refine fX ?_;refine⟨?_,rfl⟩;simp only[fault, *,ac,aa]
 refine Z_6 ?_;refine ZW ?_ ?_<;>intro hc6
 .refine fX ?_;refine⟨?_,rfl⟩;simp only[fault, *,ac,aa]
 refine Z_9 ?_;refine Zra ?_;refine⟨?_,rfl⟩;simp only[fault, *,ac,aa]
theorem Jr(kind:Int)(MQ:Bool)(w:World):Ctr prog 208 [.int .i64 kind,.bool MQ] w [] (λx cs=>x= .int .u32 (oP kind MQ)/\cs=[]):=by
 refine bN func208 rfl ntmps208 rfl (Inv.start w) ?_;refine mn ?_;refine Z_3 ?_;refine ZW ?_ ?_<;>intro hc3
 .refine gy ?_;refine ZW ?_ ?_<;>intro hc9
  .have hs:MQ=false:=by simpa using hc9
   refine jd ?_;refine Zra ?_;refine⟨?_,rfl⟩;simp only[oP,iZ, *,ac,aa]
  have hs:MQ=true:=by simpa using hc9
  refine Z_9 ?_;refine Zra ?_;refine⟨?_,rfl⟩;simp only[oP,iZ, *,ac,aa]
 refine Z_6 ?_;refine ZW ?_ ?_<;>intro hc5
 .refine gy ?_;refine ZW ?_ ?_<;>intro hc9
  .have hs:MQ=false:=by simpa using hc9
   refine jd ?_;refine Zra ?_;refine⟨?_,rfl⟩;simp only[oP,iZ, *,ac,aa]
  have hs:MQ=true:=by simpa using hc9
  refine Z_9 ?_;refine Zra ?_;refine⟨?_,rfl⟩;simp only[oP,iZ, *,ac,aa]
 refine Z_6 ?_;refine ZW ?_ ?_<;>intro hc7
 .refine gy ?_;refine ZW ?_ ?_<;>intro hc9
  .have hs:MQ=false:=by simpa using hc9
   refine jd ?_;refine Zra ?_;refine⟨?_,rfl⟩;simp only[oP,iZ, *,ac,aa]
  have hs:MQ=true:=by simpa using hc9
  refine Z_9 ?_;refine Zra ?_;refine⟨?_,rfl⟩;simp only[oP,iZ, *,ac,aa]
 refine dS ?_;refine ZW ?_ ?_<;>intro hc9
 .have hs:MQ=false:=by simpa using hc9
  refine jd ?_;refine Zra ?_;refine⟨?_,rfl⟩;simp only[oP,iZ, *,ac,aa]
 have hs:MQ=true:=by simpa using hc9
 refine Z_9 ?_;refine Zra ?_;refine⟨?_,rfl⟩;simp only[oP,iZ, *,ac,aa]
end Go.Proofs.YtkegldppffignaaGreatDoor
namespace Go.Ink
open Go.RowKit
theorem and1{v:Int}(h:u32 v):bits .and .u32 v 1=v%2:=bits_mask .u32 32 Wq5 wraps_u32 1 Wq5 v h.1 (by have:=h.2;omega)
theorem CR{v:Int}(h:u32 v):bits .and .u32 v 15=v%16:=bits_mask .u32 32 Wq5 wraps_u32 4 Wq5 v h.1 (by have:=h.2;omega)
theorem Ma(a:Int)(n:Nat):a.fdiv (2^n)=a/2^n:=bl a (by exact Int.le_of_lt (Int.pow_pos Wq5))
theorem zz(v:Nat)(h:v<=4294967295):bits .andNot .u32 (v:Int) 63=((v/64*64:Nat):Int):=by
 show IntKind.u32.wrap (((BitVec.ofInt 32 (v:Int))&&& ~~~ (BitVec.ofInt 32 63)).toNat:Int)=_;have e1:(BitVec.ofInt 32 (v:Int)).toNat=v:=by rw[BitVec.ofInt_natCast,BitVec.toNat_ofNat];exact Nat.mod_eq_of_lt Wq1
 have h1:v&&&4294967232=(v/64)*64:=by
  apply Nat.eq_of_testBit_eq;intro i;have e:(4294967232:Nat)=(2^26 - 1)*2^6:=by decide
  rw[e,Nat.testBit_and,show(v/64)*64=(v/2^6)*2^6 from rfl];rw[Nat.testBit_mul_two_pow,Nat.testBit_mul_two_pow,Nat.testBit_two_pow_sub_one,Nat.testBit_div_two_pow];by_cases hi:6<=i
  .simp only[hi,decide_true,Bool.true_and,show i - 6+6=i by omega];by_cases h26:i - 6<26
   .simp[h26]
   have:v.testBit i=false:=Nat.testBit_lt_two_pow (Nat.lt_of_lt_of_le (show v<2^32 by omega) (Nat.pow_le_pow_right Wq1 Wq1));simp[this]
  simp[hi]
 rw[BitVec.toNat_and,e1,show(~~~ (BitVec.ofInt 32 63)).toNat=4294967232 from by decide,h1];exact u32_wrap_id _ Wq1 Wq1
def My(o:Option Int):Value:=match o with|some e=> .tuple #[.int .u32 e,.bool true]|none=> .tuple #[.int .u32 0,.bool false]
theorem ou{n:Nat}{d:List Int}{a:Nat}{e:Int}(h:u8s d)(he:kG n d a=some e):u32 e/\a+4<=n*64:=by
 unfold kG at he;cases hc:decide (a+4<=n*64)with
 |true=>
  rw[hc]at he;simp only[ac,aU]at he;subst he;exact⟨uU h a,of_decide_eq_true hc⟩
 |false=>rw[hc]at he;cases he
theorem GY{n:Nat}{d:List Int}{root va a:Nat}{l:Int}(h:u8s d)(hl:mT n d root va=some (a,l)):u32 l/\a+4<=n*64:=by
 unfold mT at hl;cases hc:decide (16384<=va)with
 |true=>rw[hc]at hl;cases hl
 |false=>
  rw[hc]at hl;simp only[aa]at hl;obtain⟨e,h1,h2⟩:=Option.bind_eq_some_iff.1 hl;unfold AN at h2;cases hc2:(e%2==0)with
  |true=>rw[hc2]at h2;cases h2
  |false=>
   rw[hc2]at h2;simp only[aa]at h2;obtain⟨l',h3,h4⟩:=Option.map_eq_some_iff.1 h2;simp only[aV]at h4;obtain⟨rfl,rfl⟩:=h4;exact ou h h3
theorem gN(op:BinOp)(a b:Int):u32 (bits op .u32 a b):=by
 cases op<;>exact⟨by show 0<=IntKind.u32.wrap _;rw[aE];omega,by show IntKind.u32.wrap _<=_;rw[aE];omega⟩
theorem vr(l:Int)(kind:Int):u32 (nV l kind):=by
 unfold nV;cases(kind==3)
 .exact gN .or _ _
 exact gN .or _ _
end Go.Ink
namespace Go.Proofs.YtkegldppffignaaGreatDoor
open Go.RowKit Go.Ink Go.Proofs.Tryz
attribute [local irreducible] OpY bS
theorem CF(L:fu)(M:Mem)(a:Nat)(ha:a<=4294967295000)(w:World)(h:(eA L M).ok w):Ctr prog 250 [.pointer (some ⟨L.bm,0,none⟩),.int .u64 a] w [] (λv cs=>v=My (kG L.n M.data a)/\cs=[]):=by
 obtain⟨n1,n64,hdl,hdb,htl⟩:=mj h;refine bN func250 rfl ntmps250 rfl (Inv.start w) ?_;refine fE ?_;refine ZSe (λw hi=>kR L M w (bL.old h hi)) ?_;refine Zy (ce rfl rfl (Zv rfl) uw) ?_;refine Z_3 ?_;refine ZW ?_ ?_<;>intro hc1
 .simp only[aj]at hc1;have hc:decide (a+4<=L.n*64)=false:=aw Wq1
  refine Z_8 ?_;refine i9 ?_;unfold My kG;rw[hc];exact de
 simp only[ah]at hc1;refine Z_3 ?_;refine(Bool.eq_false_or_eq_true (decide (a+4<=L.n*64))).elim (λh0=>?_) (λh0=>?_)
 .refine Z_3 ?_;refine Zy (ce rfl rfl (Zv rfl) (u32_wrap_id _ Wq1 Wq1)) ?_;refine ZSe (λw hi=>rL L M a Wq1 w (bL.old h hi)) ?_;unfold My kG wc;rw[h0];simp only[ac];refine Z_7 ?_;refine i9 ?_;exact de
 refine Z_3 ?_;refine Zy (ce rfl rfl (Zv rfl) (u32_wrap_id _ Wq1 Wq1)) ?_;refine ZSe (λw hi=>rL L M a Wq1 w (bL.old h hi)) ?_;unfold My kG wc;rw[h0];simp only[aa];refine Z_7 ?_;refine i9 ?_;exact de
theorem look_ok(L:fu)(M:Mem)(root va:Nat)(hroot:root<=4294967295)(hva:va<=4294967295)(w:World)(h:(eA L M).ok w):Ctr prog 209 [.pointer (some ⟨L.bm,0,none⟩),.int .u32 root,.int .u32 va] w [] (λv cs=>v=lookV (mT L.n M.data root va)/\cs=[]):=by
 obtain⟨n1,n64,hdl,hdb,htl⟩:=mj h;obtain⟨e1,he1⟩:=Zgn (kG L.n M.data (at1 root va));have HE1:=CF L M (at1 root va) (by unfold at1;omega);rw[he1]at HE1;refine bN func209 rfl ntmps209 rfl (Inv.start w) ?_;refine Bn ?_;refine ZW ?_ ?_<;>intro hc1
 .have hc:decide (16384<=va)=true:=by(have h0:(16384:Int)<=va:=by simpa using hc1);exact ax Wq1
  have hl:mT L.n M.data root va=none:=by(unfold mT;rw[hc];rfl)
  rw[hl];refine Z_9 ?_;refine vk (cs':=[]) (.inl rfl) Zu rfl rfl rfl rfl ?_;exact de
 have hlt:va<16384:=by(have h0:¬(16384:Int)<=va:=by simpa using hc1);omega
 have hl:mT L.n M.data root va=e1.bind (AN L.n M.data va):=by(unfold mT;rw[aw Wq1,he1];rfl)
 rw[hl];refine Z_3 ?_;revert HE1 he1;refine Option.rec (λhe1 HE1=>?_) (λe he1 HE1=>?_) e1
 .refine Z_3 ?_;refine Zy (rF Zv0 Zv0 (zz root hroot)) ?_;refine Zy (ce rfl rfl (Zv rfl) uw) ?_;refine ZA ?_;refine Zy (ko (Zv rfl) (Zv rfl) Wq1 (show _=((va/1024:Nat):Int)from(Ma _ 10).trans Wq1)) ?_;refine Zy (oL (Zv rfl) (Zv rfl) (show _=((va/1024%16:Nat):Int)from(CR ⟨by omega,by omega⟩).trans Wq1)) ?_;refine Zy (jk (Zv rfl) (Zv rfl) (show _=((4*(va/1024%16):Nat):Int)from(u32_wrap_id _ Wq1 Wq1).trans Wq1)) ?_;refine Zy (ce rfl rfl (Zv rfl) uw) ?_;refine Zy (df (Zv rfl) (Zv rfl) (show _=((at1 root va:Nat):Int)from(u64_wrap_id _ Wq1 Wq1).trans (by unfold at1;omega))) ?_;refine ZSe (λw hi=>HE1 w (bL.old h hi)) ?_;simp only[My];refine Je ?_;refine bW rfl (rfl) ?_;refine Z_9 ?_;refine vk (cs':=[]) (.inl rfl) Zu rfl rfl rfl rfl ?_;exact de
 refine Z_3 ?_;refine Zy (rF Zv0 Zv0 (zz root hroot)) ?_;refine Zy (ce rfl rfl (Zv rfl) uw) ?_;refine ZA ?_;refine Zy (ko (Zv rfl) (Zv rfl) Wq1 (show _=((va/1024:Nat):Int)from(Ma _ 10).trans Wq1)) ?_;refine Zy (oL (Zv rfl) (Zv rfl) (show _=((va/1024%16:Nat):Int)from(CR ⟨by omega,by omega⟩).trans Wq1)) ?_;refine Zy (jk (Zv rfl) (Zv rfl) (show _=((4*(va/1024%16):Nat):Int)from(u32_wrap_id _ Wq1 Wq1).trans Wq1)) ?_;refine Zy (ce rfl rfl (Zv rfl) uw) ?_;refine Zy (df (Zv rfl) (Zv rfl) (show _=((at1 root va:Nat):Int)from(u64_wrap_id _ Wq1 Wq1).trans (by unfold at1;omega))) ?_;refine ZSe (λw hi=>HE1 w (bL.old h hi)) ?_;simp only[My];refine dS ?_;have heu:=(ou hdb he1).1;obtain⟨eu0,eu1⟩:=heu;refine Z_4 ?_;refine Zyn rfl rfl (oL (dh rfl) Zv0 (and1 ⟨eu0,eu1⟩)) ?_;refine Z_4 ?_;refine ZW ?_ ?_<;>intro hc4
 .have hc:(e%2==0)=true:=hc4;have hl2:(some e).bind (AN L.n M.data va)=none:=by(simp only[Option.bind_some];unfold AN;rw[hc];rfl)
  rw[hl2];refine Z_9 ?_;refine vk (cs':=[]) (.inl rfl) Zu rfl rfl rfl rfl ?_;exact de
 have hc:(e%2==0)=false:=hc4;have hl2:(some e).bind (AN L.n M.data va)=(kG L.n M.data (at2 e va)).map λl=>(at2 e va,l):=by(simp only[Option.bind_some];unfold AN;rw[hc];rfl)
 rw[hl2];obtain⟨e2,he2⟩:=Zgn (kG L.n M.data (at2 e va));have HE2:=CF L M (at2 e va) (by unfold at2;omega);rw[he2]at HE2|-;have hat:((at2 e va:Nat):Int)=e/256*64+4*((va/64%16:Nat):Int):=(by unfold at2;omega);refine Z_5 ?_;refine Zy (ko (Zv rfl) (Zv rfl) Wq1 (show _=e/256 from Ma _ 8)) ?_;refine Zy (ce rfl rfl (Zv rfl) uw) ?_;refine Zy (jk (Zv rfl) (Zv rfl) (show _=e/256*64 from u64_wrap_id _ Wq1 Wq1)) ?_;refine ZA ?_;refine Zy (ko (Zv rfl) (Zv rfl) Wq1 (show _=((va/64:Nat):Int)from(Ma _ 6).trans Wq1)) ?_;refine Zy (oL (Zv rfl) (Zv rfl) (show _=((va/64%16:Nat):Int)from(CR ⟨by omega,by omega⟩).trans Wq1)) ?_;refine Zy (jk (Zv rfl) (Zv rfl) (show _=((4*(va/64%16):Nat):Int)from(u32_wrap_id _ Wq1 Wq1).trans Wq1)) ?_;refine Zy (ce rfl rfl (Zv rfl) uw) ?_;refine Zy (df (Zv rfl) (Zv rfl) (show _=((at2 e va:Nat):Int)from(u64_wrap_id _ Wq1 Wq1).trans Wq1)) ?_;refine Z_4 ?_;revert HE2 he2;refine Option.rec (λhe2 HE2=>?_) (λl he2 HE2=>?_) e2
 .refine Z_3 ?_;refine ZSe (λw hi=>HE2 w (bL.old h hi)) ?_;simp only[My];refine gy ?_;refine bW rfl (rfl) ?_;refine Z_9 ?_;refine vk (cs':=[]) (.inl rfl) Zu rfl rfl rfl rfl ?_;exact de
 refine Z_3 ?_;refine ZSe (λw hi=>HE2 w (bL.old h hi)) ?_;simp only[My];refine gy ?_;refine fS ?_;refine Z_4 ?_;have h2in:=(ou hdb he2).2;refine ZA ?_;refine Zy (ce rfl rfl (Zv rfl) (u32_wrap_id _ Wq1 Wq1)) ?_;refine Z_7 ?_;refine vk (cs':=[]) (.inl rfl) Zu rfl rfl rfl rfl ?_;exact de
theorem wdo_ok(L:fu)(M:Mem)(root va:Nat)(hroot:root<=4294967295)(hva:va<=4294967295)(kind:Int)(MQ:Bool)(w:World)(hi:Inv w (bM [eA L M]) [eA L M] w):
  Ctr prog 165 [.pointer (some ⟨L.bm,0,none⟩),.int .u32 root,.int .u32 va,.int .i64 kind,.bool MQ] w [eA L M] (λv cs=>v= .tuple #[(ic L.n M root va kind MQ).1.1.v,(ic L.n M root va kind MQ).1.2.v]/\cs=[eA L (ic L.n M root va kind MQ).2]):=by
 obtain⟨n1,n64,hdl,hdb,htl⟩:=mj (hi.ok _ (List.mem_cons_self ..));obtain⟨fk,hfk⟩:=Zgn (fault kind);obtain⟨wb,hwb⟩:=Zgn (oP kind MQ);obtain⟨lk,hlk⟩:=Zgn (mT L.n M.data root va);have HF:=CA kind;have HB:=Jr kind MQ;have HL:=look_ok L M root va hroot hva;unfold ic;rw[hfk]at HF|-;rw[hwb]at HB|-;rw[hlk]at HL|-;refine bN func165 rfl ntmps165 rfl hi ?_;refine Z_2 ?_;refine ZN λb10=>?_;refine ZN λb11=>?_
 refine Z_5 ?_;refine ZSe (λw hi=>HF w) ?_;refine gy ?_;refine ZW ?_ ?_<;>intro hc2
 .have hc:(fk==0)=true:=hc2;rw[hc];simp only[ac];refine Z_5 ?_;refine ZM ?_;refine ZM ?_;refine Z_4 ?_;refine Aq (cs':=[exC _ _ _ _]) (.inl rfl) Zu rfl rfl rfl Zh Zh Zrf Zrf Zrf Zrf ?_;exact de
 have hc:(fk==0)=false:=hc2;rw[hc];simp only[aa];refine Z_6 ?_;refine ZSe (λw hi=>HB w) ?_;refine Z_4 ?_;revert HL hlk;refine Option.rec (λhlk HL=>?_) (λal hlk HL=>?_) lk
 .refine Z_4 ?_;refine ZSe (λw hi=>HL w (hi.get Zh)) ?_;simp only[lookV];refine mn ?_;refine Z_3 ?_;refine bW rfl (rfl) ?_;refine Z_6 ?_;refine ZM ?_;refine ZM ?_;refine Z_4 ?_;refine Aq (cs':=[exC _ _ _ _]) (.inl rfl) Zu rfl rfl rfl Zh Zh Zrf Zrf Zrf Zrf ?_;exact de
 obtain⟨a,l⟩:=al;have hin:=GY hdb hlk;obtain⟨lu,ain⟩:=hin;obtain⟨lu0,lu1⟩:=lu;have mu:=vr l kind;simp only;refine Z_4 ?_;refine ZSe (λw hi=>HL w (hi.get Zh)) ?_;simp only[lookV];refine mn ?_;refine Z_3 ?_;refine ZW ?_ ?_<;>intro hc6
 .have hc6':(bits .and .u32 l wb !=wb)=true:=hc6;rw[hc6'];simp only[ac];refine Z_6 ?_;refine ZM ?_;refine ZM ?_;refine Z_4 ?_;refine Aq (cs':=[exC _ _ _ _]) (.inl rfl) Zu rfl rfl rfl Zh Zh Zrf Zrf Zrf Zrf ?_;exact de
 have hc6':(bits .and .u32 l wb !=wb)=false:=hc6;rw[hc6'];simp only[aa];refine mn ?_;refine Z_2 ?_;refine ZW ?_ ?_<;>intro hc10
 .have hm:nV l kind=bits .or .u32 (bits .or .u32 l 32) 64:=by(unfold nV;rw[hc10];rfl)
  rw[hm]at mu|-;obtain⟨m,hmm⟩:=Zgn (bits .or .u32 (bits .or .u32 l 32) 64);refine Z_9 ?_;rw[hmm]at mu|-;refine Z_5 ?_;refine ZW ?_ ?_<;>intro hc12
  .rw[hc12];simp only[ac];refine Z_4 ?_;refine ZcM ([eA L M]) (λw hi hin=>oa L M a m ain mu w hin) ?_;refine Z_5 ?_;refine Zy (kp (Zv rfl) (Zv rfl) Wq1 (show _=((va/64:Nat):Int)from by rw[bD Wq1,u32_wrap_id _ Wq1 Wq1];omega)) ?_;refine ZA ?_;refine Zy (ko (Zv rfl) (Zv rfl) Wq1 (show _=m/256 from Ma _ 8)) ?_;refine Z_4 ?_;refine ZM ?_;refine ZM ?_;refine Z_3 ?_;refine Aq (cs':=[exC _ _ _ _]) (.inl rfl) Zu rfl rfl rfl Zh Zh Zrf Zrf Zrf Zrf ?_;exact de
  rw[hc12];simp only[aa];refine Z_5 ?_;refine Zy (kp (Zv rfl) (Zv rfl) Wq1 (show _=((va/64:Nat):Int)from by rw[bD Wq1,u32_wrap_id _ Wq1 Wq1];omega)) ?_;refine ZA ?_;refine Zy (ko (Zv rfl) (Zv rfl) Wq1 (show _=m/256 from Ma _ 8)) ?_;refine Z_4 ?_;refine ZM ?_;refine ZM ?_;refine Z_3 ?_;refine Aq (cs':=[exC _ _ _ _]) (.inl rfl) Zu rfl rfl rfl Zh Zh Zrf Zrf Zrf Zrf ?_;exact de
 have hm:nV l kind=bits .or .u32 l 32:=by(unfold nV;rw[hc10];rfl)
 rw[hm]at mu|-;obtain⟨m,hmm⟩:=Zgn (bits .or .u32 l 32);refine Z_5 ?_;rw[hmm]at mu|-;refine Z_5 ?_;refine ZW ?_ ?_<;>intro hc12
 .rw[hc12];simp only[ac];refine Z_4 ?_;refine ZcM ([eA L M]) (λw hi hin=>oa L M a m ain mu w hin) ?_;refine Z_5 ?_;refine Zy (kp (Zv rfl) (Zv rfl) Wq1 (show _=((va/64:Nat):Int)from by rw[bD Wq1,u32_wrap_id _ Wq1 Wq1];omega)) ?_;refine ZA ?_;refine Zy (ko (Zv rfl) (Zv rfl) Wq1 (show _=m/256 from Ma _ 8)) ?_;refine Z_4 ?_;refine ZM ?_;refine ZM ?_;refine Z_3 ?_;refine Aq (cs':=[exC _ _ _ _]) (.inl rfl) Zu rfl rfl rfl Zh Zh Zrf Zrf Zrf Zrf ?_;exact de
 rw[hc12];simp only[aa];refine Z_5 ?_;refine Zy (kp (Zv rfl) (Zv rfl) Wq1 (show _=((va/64:Nat):Int)from by rw[bD Wq1,u32_wrap_id _ Wq1 Wq1];omega)) ?_;refine ZA ?_;refine Zy (ko (Zv rfl) (Zv rfl) Wq1 (show _=m/256 from Ma _ 8)) ?_;refine Z_4 ?_;refine ZM ?_;refine ZM ?_;refine Z_3 ?_;refine Aq (cs':=[exC _ _ _ _]) (.inl rfl) Zu rfl rfl rfl Zh Zh Zrf Zrf Zrf Zrf ?_;exact de
end Go.Proofs.YtkegldppffignaaGreatDoor
namespace Go.Ink
open Go.RowKit
theorem KS{va:Nat}(h:va<=4294967295){l:Int}(hl:u32 l):(leafE va l).wf:=
 ⟨⟨by show(0:Int)<=((va/64:Nat):Int);omega,by show((va/64:Nat):Int)<=_;omega⟩,⟨by show 0<=l/256;have:=hl.1;omega,by show l/256<=_;have:=hl.1;have:=hl.2;omega⟩,gN .and _ _⟩
theorem TE.NX:TE.zero.wf:=⟨⟨by decide,by decide⟩,⟨by decide,by decide⟩,⟨by decide,by decide⟩⟩
theorem E7(n:Nat)(M:Mem)(root va:Nat)(h:va<=4294967295)(kind:Int)(MQ:Bool):(ic n M root va kind MQ).1.1.wf:=by
 unfold ic;cases(fault kind==0)with
 |true=>exact TE.NX
 |false=>
  simp only[aa];split
  .exact TE.NX
  rename_i a l _
  cases(bits .and .u32 l (oP kind MQ) !=oP kind MQ)with
  |true=>exact TE.NX
  |false=>exact KS h (vr l kind)
theorem FG(T:List TE)(e:TE):(FH T e).length=T.length:=by unfold FH;cases e.valid<;>simp
theorem FI(T:List TE)(va:Nat):(uK T va).length=T.length:=by unfold uK;cases((z5 T va).vpn==((va/64:Nat):Int))<;>simp
theorem xW(n:Nat)(U:Mmu)(s:Sp)(va:Nat)(kind:Int):(dg n U s va kind).2.t.length=U.t.length:=by
 unfold dg;cases(!s.MU)<;>simp only[ac,aa]
 cases(uJ U.t va kind s.MQ).2<;>simp only[ac,aa]
 cases((ic n U.m s.root va kind s.MQ).1.2.MR !=0)<;>simp only[ac,aa,FG]
theorem sV(n:Nat)(U:Mmu)(s:Sp)(va:Nat)(kind:Int):(cP n U s va kind).2.t.length=U.t.length:=by
 have h:=xW n U s va kind;unfold cP;cases(fault kind==0)<;>simp only[ac,aa]
 cases((dg n U s va kind).1.2.MR !=0)<;>simp only[ac,aa,h]
 cases(decide ((dg n U s va kind).1.1<((n*64:Nat):Int))||((kind !=1)&&ry (dg n U s va kind).1.1))<;>simp only[ac,aa,h]
end Go.Ink
namespace Go.Proofs.YtkegldppffignaaGreatDoor
open Go.RowKit Go.Ink Go.Proofs.Tryz
attribute [local irreducible] OpY bS
abbrev Jd(bu bm bb:Nat):bL:=row bu [.pointer (some ⟨bm,0,none⟩),.pointer (some ⟨bb,0,none⟩)] 153
abbrev uF(bu bb:Nat)(L:fu)(U:Mmu):List bL:=[Jd bu L.bm bb,eA L U.m,uI bb U.t]
theorem tV(a:Int)(w:World):Ctr prog 145 [.int .u32 a] w [] (λv cs=>v= .bool (ry a)/\cs=[]):=by
 refine bN func145 rfl ntmps145 rfl (Inv.start w) ?_;refine xF ?_;refine Zra ?_;exact de
theorem GI(bm:Nat)(w:World):Ctr prog 54 [.pointer (some ⟨bm,0,none⟩)] w [] (λv cs=>∃bu bb,v= .tuple #[.pointer (some ⟨bu,0,none⟩),.int .i64 0]/\cs=[uI bb dz,Jd bu bm bb]):=by
 refine bN func54 rfl ntmps54 rfl (Inv.start w) ?_;refine jd ?_;refine fS ?_;refine Z_5 ?_;refine ZS (λw hi=>FC w) ?_;rintro _ _ ⟨_,⟨bb,rfl,rfl⟩,rfl⟩;refine ZA ?_;refine ZO λb9=>?_
 refine Z_5 ?_;refine rx (cs':=[row _ _ _,row _ _ _]) (.inl rfl) Zu rfl rfl rfl ?_;exact⟨_,_,rfl,rfl⟩
theorem lO(bu bm bb:Nat)(w:World)(h:(Jd bu bm bb).ok w):Ctr prog 127 [.pointer (some ⟨bu,0,none⟩)] w [] (λv cs=>v= .pointer (some ⟨bm,0,none⟩)/\cs=[]):=by
 refine bN func127 rfl ntmps127 rfl (Inv.start w) ?_;refine dS ?_;refine uv ?_;refine Z_4 ?_;refine Zra ?_;exact de
theorem Jw(bu bb:Nat)(L:fu)(U:Mmu)(hT:U.t.length=16)(va:Nat)(hva:va<=4294967295)(w:World)(hi:Inv w (bM (uF bu bb L U)) (uF bu bb L U) w):Ctr prog 205 [.pointer (some ⟨bu,0,none⟩),.int .u32 va] w (uF bu bb L U) (λv cs=>v= .tuple #[]/\cs=uF bu bb L ⟨U.m,uK U.t va⟩):=by
 refine bN func205 rfl ntmps205 rfl hi ?_;refine Z_6 ?_;refine ZcM ([uI bb U.t]) (λw hi hin=>JI bb U.t hT va hva w hin) ?_;refine Zn (bP (uF bu bb L ⟨U.m,uK U.t va⟩) Zj ?_);refine jb (cs':=uF _ _ _ _) (.inr rfl) Zu rfl ?_;exact de
theorem Fe(bu bb:Nat)(L:fu)(U:Mmu)(hT:U.t.length=16)(w:World)(hi:Inv w (bM (uF bu bb L U)) (uF bu bb L U) w):Ctr prog 204 [.pointer (some ⟨bu,0,none⟩)] w (uF bu bb L U) (λv cs=>v= .tuple #[]/\cs=uF bu bb L ⟨U.m,dz⟩):=by
 refine bN func204 rfl ntmps204 rfl hi ?_;refine Z_5 ?_;refine ZcM ([uI bb U.t]) (λw hi hin=>FF bb U.t hT w hin) ?_;refine Zn (bP (uF bu bb L ⟨U.m,dz⟩) Zj ?_);refine jb (cs':=uF _ _ _ _) (.inr rfl) Zu rfl ?_;exact de
abbrev trC(b:Nat)(t:Tr):bL:=row b t.cells 214
abbrev teC(b:Nat)(e:TE):bL:=row b e.cells 198
theorem Fq(bu bb:Nat)(L:fu)(U:Mmu)(hT:U.t.length=16)(s:Sp)(hr:s.root<=4294967295)(va:Nat)(hva:va<=4294967295)(kind:Int)(w:World)(hi:Inv w (bM (uF bu bb L U)) (uF bu bb L U) w):
  Ctr prog 144 [.pointer (some ⟨bu,0,none⟩),s.v,.int .u32 va,.int .i64 kind] w (uF bu bb L U) (λv cs=>v= .tuple #[.int .u32 (dg L.n U s va kind).1.1,(dg L.n U s va kind).1.2.v]/\cs=uF bu bb L (dg L.n U s va kind).2):=by
 obtain⟨fd,hfd⟩:=Zgn (uJ U.t va kind s.MQ);obtain⟨wd,hwd⟩:=Zgn (ic L.n U.m s.root va kind s.MQ);have hwf:=E7 L.n U.m s.root va hva kind s.MQ;have HFD:=JG bb U.t hT va hva kind s.MQ;have HWD:=wdo_ok L U.m s.root va hr hva kind s.MQ;unfold dg;rw[hfd]at HFD|-;rw[hwd]at HWD hwf|-;obtain⟨⟨te,tr⟩,M'⟩:=wd;simp only at HWD hwf|-;refine bN func144 rfl ntmps144 rfl hi ?_;refine Z_2 ?_;refine ZO λb5=>?_;refine ZA ?_;refine ZN λb9=>?_
 refine dS ?_;refine ZW ?_ ?_<;>intro hc1
 .rw[hc1];simp only[ac];refine Z_5 ?_;refine ZM ?_;refine Z_4 ?_;refine od (cs':=[row _ _ _,exC _ _ _ _,row _ _ _]) (.inl rfl) Zu rfl rfl rfl Zh Zrf Zrf ?_;exact de
 rw[hc1];simp only[aa];refine Z_4 ?_;refine bU ⟨λj=>List.elem j [],[]⟩ Zk ?_;refine gO ?_;refine ZFe 2 1 ?_;refine ZG 3 ?_;refine ZE 4 ?_;refine ZE 5 ?_;refine ZFe 6 1 ?_;refine ZG 7 ?_;refine cn 8 Zk ?_;refine ZT (λw hi=>HFD w (hi.get Zh)) ?_;rintro _ _ ⟨_,⟨rfl,rfl⟩,rfl⟩;refine ZE 9 ?_;refine ZE 10 ?_;refine ZE 11 ?_;refine ZE 12 ?_;refine ZE 13 ?_;refine dx ?_;refine Z_6 ?_;refine ZW ?_ ?_<;>intro hc4
 .rw[hc4];simp only[ac];refine Z_5 ?_;refine ZM ?_;refine Z_4 ?_;refine od (cs':=[row _ _ _,exC _ _ _ _,row _ _ _]) (.inl rfl) Zu rfl rfl rfl Zh Zrf Zrf ?_;exact de
 rw[hc4];simp only[aa];refine Z_2 ?_;refine da (λq:Nat×Nat=>[(0,.pointer (some ⟨bu,0,none⟩)),(2,.int .u32 va),(9,.pointer (some ⟨b9,0,none⟩)),(12,.pointer (some ⟨q.1,0,none⟩)),(13,.pointer (some ⟨q.2,0,none⟩))]) (λq=>[Jd bu L.bm bb,eA L M',uI bb U.t,trC b9 Tr.none,teC q.1 te,trC q.2 tr]) (λ_=>True) ?_ ?_
 .refine bU ⟨λj=>List.elem j [10,16,17],[]⟩ Zk ?_;refine gO ?_;refine ZFe 2 0 ?_;refine ZG 3 ?_;refine ZFe 4 2 ?_;refine ZG 5 ?_;refine ZE 6 ?_;refine ZE 7 ?_;refine ZFe 8 1 ?_;refine ZG 9 ?_;refine wa_3 10 14 15 Zk ?_ ?_ ?_
  .refine ZcA ([eA L U.m]) (λw hi hin=>HWD w hin) ?_;rintro _ _ ⟨_,⟨rfl,rfl⟩,rfl⟩;refine ZE 11 ?_;refine ZE 12 ?_;refine ZE 13 ?_;refine k8 14 15 Zk ?_ ?_
   .refine ZP λb12=>?_
    refine cn 15 Zk ?_;refine ZP λb13=>?_
    refine cn 16 Zk ?_;refine du rfl rfl (bZ (vs:=te.cells) Zrf rfl rfl (jA rfl) Za (by exact rfl)) ZJ ?_;rintro _ _ ⟨rfl,rfl⟩;refine cn 17 Zk ?_;refine du rfl rfl (bZ (vs:=tr.cells) Zrf rfl rfl (jA rfl) Za (by exact rfl)) ZJ ?_;rintro _ _ ⟨rfl,rfl⟩;refine dx ?_;refine bX ((b12,b13)) ?_ ?_ ?_
    .trivial
    .exact Zwk
    exact Zj
   refine ZP λb13=>?_
   refine cn 14 Zk ?_;refine ZP λb12=>?_
   refine cn 16 Zk ?_;refine du rfl rfl (bZ (vs:=te.cells) Zrf rfl rfl (jA rfl) Za (by exact rfl)) ZJ ?_;rintro _ _ ⟨rfl,rfl⟩;refine cn 17 Zk ?_;refine du rfl rfl (bZ (vs:=tr.cells) Zrf rfl rfl (jA rfl) Za (by exact rfl)) ZJ ?_;rintro _ _ ⟨rfl,rfl⟩;refine dx ?_;refine bX ((b12,b13)) ?_ ?_ ?_
   .trivial
   .exact Zwk
   exact Zj
  .refine ZP λb12=>?_
   refine k8 10 15 Zk ?_ ?_
   .refine ZcA ([eA L U.m]) (λw hi hin=>HWD w hin) ?_;rintro _ _ ⟨_,⟨rfl,rfl⟩,rfl⟩;refine ZE 11 ?_;refine ZE 12 ?_;refine ZE 13 ?_;refine cn 15 Zk ?_;refine ZP λb13=>?_
    refine cn 16 Zk ?_;refine du rfl rfl (bZ (vs:=te.cells) Zrf rfl rfl (jA rfl) Za (by exact rfl)) ZJ ?_;rintro _ _ ⟨rfl,rfl⟩;refine cn 17 Zk ?_;refine du rfl rfl (bZ (vs:=tr.cells) Zrf rfl rfl (jA rfl) Za (by exact rfl)) ZJ ?_;rintro _ _ ⟨rfl,rfl⟩;refine dx ?_;refine bX ((b12,b13)) ?_ ?_ ?_
    .trivial
    .exact Zwk
    exact Zj
   refine ZP λb13=>?_
   refine cn 10 Zk ?_;refine ZcA ([eA L U.m]) (λw hi hin=>HWD w hin) ?_;rintro _ _ ⟨_,⟨rfl,rfl⟩,rfl⟩;refine ZE 11 ?_;refine ZE 12 ?_;refine ZE 13 ?_;refine cn 16 Zk ?_;refine du rfl rfl (bZ (vs:=te.cells) Zrf rfl rfl (jA rfl) Za (by exact rfl)) ZJ ?_;rintro _ _ ⟨rfl,rfl⟩;refine cn 17 Zk ?_;refine du rfl rfl (bZ (vs:=tr.cells) Zrf rfl rfl (jA rfl) Za (by exact rfl)) ZJ ?_;rintro _ _ ⟨rfl,rfl⟩;refine dx ?_;refine bX ((b12,b13)) ?_ ?_ ?_
   .trivial
   .exact Zwk
   exact Zj
  refine ZP λb13=>?_
  refine k8 10 14 Zk ?_ ?_
  .refine ZcA ([eA L U.m]) (λw hi hin=>HWD w hin) ?_;rintro _ _ ⟨_,⟨rfl,rfl⟩,rfl⟩;refine ZE 11 ?_;refine ZE 12 ?_;refine ZE 13 ?_;refine cn 14 Zk ?_;refine ZP λb12=>?_
   refine cn 16 Zk ?_;refine du rfl rfl (bZ (vs:=te.cells) Zrf rfl rfl (jA rfl) Za (by exact rfl)) ZJ ?_;rintro _ _ ⟨rfl,rfl⟩;refine cn 17 Zk ?_;refine du rfl rfl (bZ (vs:=tr.cells) Zrf rfl rfl (jA rfl) Za (by exact rfl)) ZJ ?_;rintro _ _ ⟨rfl,rfl⟩;refine dx ?_;refine bX ((b12,b13)) ?_ ?_ ?_
   .trivial
   .exact Zwk
   exact Zj
  refine ZP λb12=>?_
  refine cn 10 Zk ?_;refine ZcA ([eA L U.m]) (λw hi hin=>HWD w hin) ?_;rintro _ _ ⟨_,⟨rfl,rfl⟩,rfl⟩;refine ZE 11 ?_;refine ZE 12 ?_;refine ZE 13 ?_;refine cn 16 Zk ?_;refine du rfl rfl (bZ (vs:=te.cells) Zrf rfl rfl (jA rfl) Za (by exact rfl)) ZJ ?_;rintro _ _ ⟨rfl,rfl⟩;refine cn 17 Zk ?_;refine du rfl rfl (bZ (vs:=tr.cells) Zrf rfl rfl (jA rfl) Za (by exact rfl)) ZJ ?_;rintro _ _ ⟨rfl,rfl⟩;refine dx ?_;refine bX ((b12,b13)) ?_ ?_ ?_
  .trivial
  .exact Zwk
  exact Zj
 rintro⟨b12,b13⟩ -;dsimp only;refine Z_8 ?_;refine ZW ?_ ?_<;>intro hc7
 .rw[hc7];simp only[ac];refine Zs (bU ⟨λj=>List.elem j [2],[]⟩ Zk ?_);refine ZI 0 ?_;refine ZE 1 ?_;refine cn 2 Zk ?_;refine ZR ?_;refine dx ?_;refine Z_3 ?_;refine od (cs':=[row _ _ _,exC _ _ _ _,row _ _ _]) (.inl rfl) Zu rfl rfl rfl Zh Zrf Zrf ?_;exact de
 rw[hc7];simp only[aa];refine Z_3 ?_;refine bU ⟨λj=>List.elem j [5],[]⟩ Zk ?_;refine gO ?_;refine ZFe 2 1 ?_;refine ZG 3 ?_;refine ZI 4 ?_;refine cn 5 Zk ?_;refine ZcA ([uI bb U.t]) (λw hi hin=>JH bb U.t hT te hwf w hin) ?_;rintro _ _ ⟨_,⟨rfl,rfl⟩,rfl⟩;refine dx ?_;refine Z_2 ?_;refine bU ⟨λj=>List.elem j [8],[]⟩ Zk ?_;refine ZFe 0 2 ?_;refine ZG 1 ?_;refine cG 2 rfl Zk Zk Zk (jk Zv0 Zv0 rfl) rfl ?_;refine ZE 3 ?_;refine cG 4 rfl Zk Zk Zk (ij (Zv rfl) (Zv rfl) Wq1 (show _=((va%64:Nat):Int)from by rw[aG Wq1];omega)) rfl ?_;refine cG 5 rfl Zk Zk Zk (df Zv0 Zv0 rfl) rfl ?_;refine ZI 6 ?_;refine ZE 7 ?_;refine cn 8 Zk ?_;refine ZR ?_;refine dx ?_;refine Z_2 ?_;refine bP [Jd bu L.bm bb,eA L M',uI bb (FH U.t te),trC b9 tr] Zj ?_;refine od (cs':=[row _ _ _,exC _ _ _ _,row _ _ _]) (.inl rfl) Zu rfl rfl rfl Zh Zrf Zrf ?_;exact de
end Go.Proofs.YtkegldppffignaaGreatDoor
namespace Go.Ink
open Go.RowKit
theorem sW(pfn:Int)(va:Nat):u32 (qT pfn va)/\qT pfn va%64=((va%64:Nat):Int):=by
 unfold qT;rw[aE,aE];exact⟨⟨by omega,by omega⟩,by omega⟩
theorem wj(n:Nat)(U:Mmu)(s:Sp)(va:Nat)(hva:va<=4294967295)(kind:Int):u32 (dg n U s va kind).1.1/\((dg n U s va kind).1.2.MR=0->(dg n U s va kind).1.1%64=((va%64:Nat):Int)):=by
 unfold dg;cases(!s.MU)with
 |true=>exact⟨⟨by show(0:Int)<=(va:Int);omega,by show(va:Int)<=_;omega⟩,λ_=>by show(va:Int)%64=_;omega⟩
 |false=>
  simp only[aa];cases hf:(uJ U.t va kind s.MQ).2 with
  |true=>
   simp only[ac];unfold uJ at hf|-;cases hn:om (z5 U.t va) va (asked kind s.MQ)with
   |true=>rw[hn]at hf;cases hf
   |false=>
    simp only[aa];have:=sW (z5 U.t va).pfn va;exact⟨this.1,λ_=>this.2⟩
  |false=>
   simp only[aa];cases hc:((ic n U.m s.root va kind s.MQ).1.2.MR !=0)with
   |true=>
    simp only[ac];refine⟨⟨by decide,by decide⟩,λh=>?_⟩;rw[h]at hc;cases hc
   |false=>
    simp only[aa];have:=sW (ic n U.m s.root va kind s.MQ).1.1.pfn va;exact⟨this.1,λ_=>this.2⟩
structure I8(n:Nat)(va:Nat)(p:Int):Prop where
 u:u32 p
 m:p%64=((va%64:Nat):Int)
 r:p<((n*64:Nat):Int)\/ry p=true
theorem jI(n:Nat)(U:Mmu)(s:Sp)(va:Nat)(hva:va<=4294967295)(kind:Int):u32 (cP n U s va kind).1.1/\((cP n U s va kind).1.2.MR=0->I8 n va (cP n U s va kind).1.1):=by
 obtain⟨h1,h2⟩:=wj n U s va hva kind;have u0:u32 0:=⟨by decide,by decide⟩;unfold cP;cases hf:(fault kind==0)with
 |true=>exact⟨u0,λh=>by cases h⟩
 |false=>
  simp only[aa];cases hc:((dg n U s va kind).1.2.MR !=0)with
  |true=>
   simp only[ac];refine⟨u0,λh=>?_⟩;rw[h]at hc;cases hc
  |false=>
   simp only[aa];cases hr:(decide ((dg n U s va kind).1.1<((n*64:Nat):Int))||((kind !=1)&&ry (dg n U s va kind).1.1))with
   |false=>exact⟨u0,λh=>by cases h⟩
   |true=>
    simp only[ac];refine⟨h1,λh=>⟨h1,h2 h,?_⟩⟩;simp only[Bool.or_eq_true,aj,aL]at hr;rcases hr with hr|hr
    .exact .inl hr
    exact .inr hr.2
def eC(va:Nat):Nat:=(va - va%64+64)%4294967296
theorem lV(va:Nat):eC va<=4294967295:=by unfold eC;omega
theorem yE(va:Nat):eC va%64=0:=by unfold eC;omega
def lx(a b:Int)(va j:Nat):Int:=bif decide (j<64 - va%64)then IntKind.u32.wrap (a+(j:Int))else IntKind.u32.wrap (b+((j - (64 - va%64):Nat):Int))
def lQ(a b:Int)(va k:Nat):List Int:=(List.range k).map (lx a b va)
theorem nC(a b:Int)(va k:Nat):lQ a b va (k+1)=lQ a b va k++[lx a b va k]:=by simp[lQ,List.range_succ]
theorem yi(a b:Int)(va k:Nat):(lQ a b va k).length=k:=by simp[lQ]
def gf(a b:Int)(va k:Nat)(t:Tr)(U:Mmu):(List Int×Tr)×Mmu:=
 bif ry a then(([],⟨10,va⟩),U)else bif(decide (((64 - va%64:Nat):Int)<(k:Int))&&ry b)then(([],⟨10,eC va⟩),U)else((lQ a b va k,t),U)
def DB(n:Nat)(s:Sp)(va k:Nat)(kind:Int)(p1:(Int×Tr)×Mmu):(List Int×Tr)×Mmu:=
 bif(cP n p1.2 s (eC va) kind).1.2.MR !=0 then(([],(cP n p1.2 s (eC va) kind).1.2),(cP n p1.2 s (eC va) kind).2)
 else gf p1.1.1 (cP n p1.2 s (eC va) kind).1.1 va k (cP n p1.2 s (eC va) kind).1.2 (cP n p1.2 s (eC va) kind).2
def DC(n:Nat)(s:Sp)(va k:Nat)(kind:Int)(p1:(Int×Tr)×Mmu):(List Int×Tr)×Mmu:=
 bif p1.1.2.MR !=0 then(([],p1.1.2),p1.2)else
 bif decide (((64 - va%64:Nat):Int)<(k:Int))then DB n s va k kind p1 else gf p1.1.1 0 va k p1.1.2 p1.2
def fm(n:Nat)(U:Mmu)(s:Sp)(va k:Nat)(kind:Int):(List Int×Tr)×Mmu:=DC n s va k kind (cP n U s va kind)
theorem BG{n:Nat}{a b:Int}{va k:Nat}(hn:n<=64)(ha:0<=a)(ha1:a<((n*64:Nat):Int))(hm:a%64=((va%64:Nat):Int))(hb:((64 - va%64:Nat):Int)<(k:Int)->0<=b/\b<((n*64:Nat):Int)/\b%64=0)(hk:k<=4):∀x,x∈lQ a b va k->0<=x/\x<((n*64:Nat):Int):=by
 intro x hx;unfold lQ at hx;obtain⟨j,hj,rfl⟩:=aZ.1 hx;rw[List.mem_range]at hj;unfold lx;cases hc:decide (j<64 - va%64)with
 |true=>
  simp only[ac];have:=of_decide_eq_true hc;rw[aE];omega
 |false=>
  simp only[aa];have h1:=of_decide_eq_false hc;obtain⟨b0,b1,b2⟩:=hb Wq1;rw[aE];omega
theorem Be{a:Int}(h:ry a=false){n:Nat}{va:Nat}(hp:I8 n va a):a<((n*64:Nat):Int):=by
 rcases hp.r with h1|h1
 .exact h1
 rw[h]at h1;cases h1
theorem yh{n:Nat}{U:Mmu}{s:Sp}{va k:Nat}(hn:n<=64)(hva:va<=4294967295){kind:Int}(hk:k<=4):∀x,x∈(fm n U s va k kind).1.1->0<=x/\x<((n*64:Nat):Int):=by
 obtain⟨_,h1⟩:=jI n U s va hva kind;unfold fm DC;cases hc:((cP n U s va kind).1.2.MR !=0)with
 |true=>intro x hx;cases hx
 |false=>
  simp only[aa];have p1:=h1 (by simpa using hc);cases hl:decide (((64 - va%64:Nat):Int)<(k:Int))with
  |true=>
   simp only[ac];unfold DB;obtain⟨_,h2⟩:=jI n (cP n U s va kind).2 s (eC va) (lV va) kind;cases hc2:((cP n (cP n U s va kind).2 s (eC va) kind).1.2.MR !=0)with
   |true=>intro x hx;cases hx
   |false=>
    simp only[aa];have p2:=h2 (by simpa using hc2);unfold gf;cases d1:ry (cP n U s va kind).1.1 with
    |true=>intro x hx;cases hx
    |false=>
     simp only[aa];rw[hl];simp only[Bool.true_and];cases d2:ry (cP n (cP n U s va kind).2 s (eC va) kind).1.1 with
     |true=>intro x hx;cases hx
     |false=>
      simp only[aa];exact BG hn p1.u.1 (Be d1 p1) p1.m (λ_=>⟨p2.u.1,Be d2 p2,by have h3:=p2.m;rw[yE]at h3;exact h3⟩) hk
  |false=>
   simp only[aa];unfold gf;cases d1:ry (cP n U s va kind).1.1 with
   |true=>intro x hx;cases hx
   |false=>
    simp only[aa];rw[hl];simp only[Bool.false_and,aa];exact BG hn p1.u.1 (Be d1 p1) p1.m (λh=>absurd h (of_decide_eq_false hl)) hk
theorem qf{n:Nat}{U:Mmu}{s:Sp}{va k:Nat}{kind:Int}:(fm n U s va k kind).1.1.length<=k:=by
 unfold fm DC DB gf
 repeat' (first|(simp only[ao];omega)|(rw[yi];exact aM _)|(rw[Bool.cond_eq_ite];split))
def gK(d:List Int):List Int->Int
 |[]=>0
 |a::l=>gB d a.toNat+256*gK d l
theorem mN{d:List Int}(h:u8s d):∀l:List Int,0<=gK d l/\gK d l<256^l.length
 |[]=>by simp[gK]
 |a::l=>by
  have h1:=ji h a.toNat;have h2:=mN h l;simp only[gK,ak,Int.pow_succ];omega
theorem w8{d:List Int}(h:u8s d){l:List Int}(hl:l.length<=4){j:Nat}(hj:j<l.length):bits .or .u32 (IntKind.u32.wrap (gK d (l.drop (j+1))*2^(min (8:Int).toNat IntKind.u32.bits))) (gB d (l[j]'hj).toNat)=gK d (l.drop j):=by
 have h1:=mN h (l.drop (j+1));have h2:=ji h (l[j]'hj).toNat;have h3:(l.drop (j+1)).length<=3:=by rw[bI];omega
 rw[show l.drop j=l[j]'hj::l.drop (j+1)from List.drop_eq_getElem_cons hj];simp only[gK];generalize gK d (l.drop (j+1))=v at h1;generalize (l.drop (j+1)).length=m at h1 h3;have hv:0<=v/\v<16777216:=by
  obtain rfl|rfl|rfl|rfl:m=0\/m=1\/m=2\/m=3:=by omega
  all_goals (simp at h1;omega)
 have e1:(2:Int)^(min (8:Int).toNat IntKind.u32.bits)=256:=rfl;rw[e1,u32_wrap_id _ Wq1 Wq1,bits_join .u32 32 Wq5 wraps_u32 8 (v*256) _ Wq1 Wq1 Wq1 Wq1 Wq1 Wq1];omega
def Nm(M:Mem)(l:List Int)(v:Int):Nat->Mem
 |0=>M
 |k+1=>(Nm M l v k).put ((l.getD k 0).toNat) (nR v k)
def pC(n:Nat)(U:Mmu)(s:Sp)(va k:Nat):(Int×Tr)×Mmu:=
 ((gK (fm n U s va k 2).2.m.data (fm n U s va k 2).1.1,(fm n U s va k 2).1.2),(fm n U s va k 2).2)
def nX(n:Nat)(U:Mmu)(s:Sp)(va k:Nat)(v:Int):Tr×Mmu:=
 ((fm n U s va k 3).1.2,⟨Nm (fm n U s va k 3).2.m (fm n U s va k 3).1.1 v (fm n U s va k 3).1.1.length,(fm n U s va k 3).2.t⟩)
theorem zR(v:Int){k:Nat}(hk:k<4):IntKind.u8.wrap (v.fdiv (2^(min (IntKind.i64.wrap (8*(k:Int))).toNat IntKind.u32.bits)))=nR v k:=by
 rw[<-xO v hk];obtain rfl|rfl|rfl|rfl:k=0\/k=1\/k=2\/k=3:=by omega
 all_goals rfl
end Go.Ink
namespace Go.Proofs.YtkegldppffignaaGreatDoor
open Go.RowKit Go.Ink Go.Proofs.Tryz
attribute [local irreducible] OpY bS
theorem oV(bu bb:Nat)(L:fu)(U:Mmu)(hT:U.t.length=16)(s:Sp)(hr:s.root<=4294967295)(va:Nat)(hva:va<=4294967295)(kind:Int)(w:World)(hi:Inv w (bM (uF bu bb L U)) (uF bu bb L U) w):
  Ctr prog 126 [.pointer (some ⟨bu,0,none⟩),s.v,.int .u32 va,.int .i64 kind] w (uF bu bb L U) (λv cs=>v= .tuple #[.int .u32 (cP L.n U s va kind).1.1,(cP L.n U s va kind).1.2.v]/\cs=uF bu bb L (cP L.n U s va kind).2):=by
 obtain⟨fk,hfk⟩:=Zgn (fault kind);obtain⟨td,htd⟩:=Zgn (dg L.n U s va kind);have HF:=CA kind;have HT:=Fq bu bb L U hT s hr va hva kind;unfold cP;rw[hfk]at HF|-;rw[htd]at HT|-;obtain⟨⟨p,tr⟩,U'⟩:=td;simp only at HT|-;refine bN func126 rfl ntmps126 rfl hi ?_;refine Z_2 ?_;refine ZO λb5=>?_;refine ZA ?_;refine ZN λb9=>?_
 refine Z_6 ?_;refine ZN λb10=>?_
 refine ZM ?_;refine Z_6 ?_;refine ZSe (λw hi=>HF w) ?_;refine Z_3 ?_;refine ZW ?_ ?_<;>intro hc2
 .rw[hc2];simp only[ac];refine Zs (bU ⟨λj=>List.elem j [2],[]⟩ Zk ?_);refine ZI 0 ?_;refine ZE 1 ?_;refine cn 2 Zk ?_;refine ZR ?_;refine dx ?_;refine Z_3 ?_;refine od (cs':=[row _ _ _,exC _ _ _ _,row _ _ _]) (.inl rfl) Zu rfl rfl rfl Zh Zrf Zrf ?_;exact de
 rw[hc2];simp only[aa];refine Z_8 ?_;refine ZcM (uF bu bb L U) (λw hi hin=>HT w hin) ?_;refine Z_3 ?_;refine ZN λb12=>?_
 refine ZA ?_;refine dH (bZ (vs:=tr.cells) Zrf rfl rfl (jA rfl) Za (by exact rfl)) ?_;rintro _ _ ⟨rfl,rfl⟩;refine dS ?_;refine ZW ?_ ?_<;>intro hc5
 .rw[hc5];simp only[ac];refine Zs (bU ⟨λj=>List.elem j [2],[]⟩ Zk ?_);refine ZI 0 ?_;refine ZE 1 ?_;refine cn 2 Zk ?_;refine ZR ?_;refine dx ?_;refine Z_3 ?_;refine od (cs':=[row _ _ _,exC _ _ _ _,row _ _ _]) (.inl rfl) Zu rfl rfl rfl Zh Zrf Zrf ?_;exact de
 rw[hc5];simp only[aa];refine dS ?_;refine ZSe (λw hi=>kR L U'.m w (hi.get Zh)) ?_;refine Z_6 ?_;refine eu (fV rfl rfl) (.cons (dh rfl) .nil) (λ_ _=>rfl) (λhg w hi=>tV p w) rfl ?_;refine Z_4 ?_;refine ZW ?_ ?_<;>intro hc7
 .rw[hc7];simp only[ac];refine Zs (bU ⟨λj=>List.elem j [3],[]⟩ Zk ?_);refine ZE 0 ?_;refine ZI 1 ?_;refine ZE 2 ?_;refine cn 3 Zk ?_;refine ZR ?_;refine dx ?_;refine Z_3 ?_;refine od (cs':=[row _ _ _,exC _ _ _ _,row _ _ _]) (.inl rfl) Zu rfl rfl rfl Zh Zrf Zrf ?_;exact de
 rw[hc7];simp only[aa];refine Z_3 ?_;refine bU ⟨λj=>List.elem j [2],[]⟩ Zk ?_;refine ZI 0 ?_;refine ZE 1 ?_;refine cn 2 Zk ?_;refine ZR ?_;refine dx ?_;refine Z_2 ?_;refine od (cs':=[row _ _ _,exC _ _ _ _,row _ _ _]) (.inl rfl) Zu rfl rfl rfl Zh Zrf Zrf ?_;exact de
theorem F1(bu bb:Nat)(L:fu)(U:Mmu)(hT:U.t.length=16)(s:Sp)(hr:s.root<=4294967295)(va k:Nat)(hva:va<=4294967295)(hk1:1<=k)(hk4:k<=4)(kind:Int)(w:World)(hi:Inv w (bM (uF bu bb L U)) (uF bu bb L U) w):
  Ctr prog 270 [.pointer (some ⟨bu,0,none⟩),s.v,.int .u32 va,.int .i64 k,.int .i64 kind] w (uF bu bb L U) (λv cs=>∃A c,v= .tuple #[.slice A (fm L.n U s va k kind).1.1.length c,(fm L.n U s va k kind).1.2.v]/\cs=uF bu bb L (fm L.n U s va k kind).2++[sl .u32 25 A (fm L.n U s va k kind).1.1.length c (fm L.n U s va k kind).1.1]):=by
 have HP1:=oV bu bb L U hT s hr va hva kind;have hl1:=sV L.n U s va kind;obtain⟨p1,hp1⟩:=Zgn (cP L.n U s va kind);unfold fm;rw[hp1]at HP1 hl1|-;rw[hT]at hl1;have HP2:=oV bu bb L p1.2 hl1 s hr (eC va) (lV va) kind;obtain⟨p2,hp2⟩:=Zgn (cP L.n p1.2 s (eC va) kind);unfold DC DB;rw[hp2]at HP2|-;obtain⟨⟨a1,tr1⟩,U1⟩:=p1;obtain⟨⟨a2,tr2⟩,U2⟩:=p2;simp only at HP1 HP2|-;refine bN func270 rfl ntmps270 rfl hi ?_;refine Z_2 ?_;refine ZO λb6=>?_;refine ZA ?_;refine ZN λb11=>?_
 refine jd ?_;refine dc rfl ((by rw[aw (show¬(k:Int)<1 by omega),aw (show¬(4:Int)<k by omega)];rfl)) ?_;refine Z_8 ?_;refine ZcM (uF bu bb L U) (λw hi hin=>HP1 w hin) ?_;refine Z_3 ?_;refine ZN λb13=>?_
 refine ZA ?_;refine dH (bZ (vs:=tr1.cells) Zrf rfl rfl (jA rfl) Za (by exact rfl)) ?_;rintro _ _ ⟨rfl,rfl⟩;refine dS ?_;refine ZW ?_ ?_<;>intro hc4
 .rw[hc4];simp only[ac];refine Zs (bU ⟨λj=>List.elem j [2],[]⟩ Zk ?_);refine E9 25 1 ?_;refine ZI 0 ?_;refine ZE 1 ?_;refine cn 2 Zk ?_;refine ZR ?_;refine dx ?_;refine Z_3 ?_;refine od (cs':=[row _ _ _,exC _ _ _ _,row _ _ _,slv _ _ _ _ _ _]) (.inl rfl) Zu rfl rfl rfl Zh Zrf Zrf ?_;exact⟨_,_,rfl,rfl⟩
 rw[hc4];simp only[aa];refine Z_5 ?_;refine Zy (ij (Zv rfl) (Zv rfl) Wq1 (show _=((va%64:Nat):Int)from by rw[aG Wq1];omega)) ?_;refine Zy (ce rfl rfl Zv0 Zl) ?_;refine Zy (eE (Zv rfl) (Zv rfl) (show IntKind.i64.wrap _=((64 - va%64:Nat):Int) by rw[bF _ ⟨by omega,by omega⟩];omega)) ?_;refine Z_7 ?_;refine Zy (ij (Zv rfl) (Zv rfl) Wq1 (show _=((va%64:Nat):Int)from by rw[aG Wq1];omega)) ?_;refine Zy (eE Zv0 Zv0 rfl) ?_;refine Zy (df (Zv rfl) (Zv rfl) (show IntKind.u32.wrap (IntKind.u32.wrap _+64)=((eC va:Nat):Int) by rw[aE,aE];unfold eC;omega)) ?_;refine Z_4 ?_;refine da (λq:Int×Mmu×Tr=>[(2,.int .u32 va),(3,.int .i64 k),(11,.pointer (some ⟨b11,0,none⟩)),(12,.int .u32 a1),(13,.pointer (some ⟨b13,0,none⟩)),(14,.int .i64 ((64 - va%64:Nat):Int)),(15,.int .u32 (eC va:Nat)),(16,.int .u32 q.1)]) (λq=>uF bu bb L q.2.1++[trC b11 Tr.none,trC b13 q.2.2]) (λq=>(bif decide (((64 - va%64:Nat):Int)<(k:Int))then bif tr2.MR !=0 then((([]:List Int),tr2),U2)else gf a1 a2 va k tr2 U2 else gf a1 0 va k tr1 U1)=gf a1 q.1 va k q.2.2 q.2.1) ?_ ?_
 .refine Z_7 ?_;refine ZW ?_ ?_<;>intro hc8
  .have hsm:(bif decide (((64 - va%64:Nat):Int)<(k:Int))then bif tr2.MR !=0 then((([]:List Int),tr2),U2)else gf a1 a2 va k tr2 U2 else gf a1 0 va k tr1 U1)=bif tr2.MR !=0 then((([]:List Int),tr2),U2)else gf a1 a2 va k tr2 U2:=by rw[hc8];rfl
   refine Z_6 ?_;refine ZcM (uF bu bb L U1) (λw hi hin=>HP2 w hin) ?_;refine Z_4 ?_;refine dH (bZ (vs:=tr2.cells) Zrf rfl rfl (jA rfl) Za (by exact rfl)) ?_;rintro _ _ ⟨rfl,rfl⟩;refine Z_9 ?_;refine ZW ?_ ?_<;>intro hc10
   .rw[hsm,hc10];simp only[ac];refine Zs (bU ⟨λj=>List.elem j [2],[]⟩ Zk ?_);refine E9 25 1 ?_;refine ZI 0 ?_;refine ZE 1 ?_;refine cn 2 Zk ?_;refine ZR ?_;refine dx ?_;refine Z_3 ?_;refine od (cs':=[row _ _ _,exC _ _ _ _,row _ _ _,slv _ _ _ _ _ _]) (.inl rfl) Zu rfl rfl rfl Zh Zrf Zrf ?_;exact⟨_,_,rfl,rfl⟩
   refine Zc ?_;refine bX ((a2,U2,tr2)) ?_ ?_ ?_
   .exact hsm.trans (by rw[hc10];rfl)
   .exact Zwk
   exact Zj
  have hsm:(bif decide (((64 - va%64:Nat):Int)<(k:Int))then bif tr2.MR !=0 then((([]:List Int),tr2),U2)else gf a1 a2 va k tr2 U2 else gf a1 0 va k tr1 U1)=gf a1 0 va k tr1 U1:=by rw[hc8];rfl
  refine Zc ?_;refine bX ((0,U1,tr1)) ?_ ?_ ?_
  .exact hsm
  .exact Zwk
  exact Zj
 rintro⟨a2',U',tr'⟩ hq;dsimp only at hq;rw[hq];dsimp only;unfold gf;refine Z_5 ?_;refine ZSe (λw hi=>tV a1 w) ?_;refine Z_3 ?_;refine ZW ?_ ?_<;>intro hc12
 .rw[hc12];simp only[ac];refine Z_2 ?_;refine dC 25 1 ?_;refine Z_3 ?_;refine ZM ?_;refine Z_5 ?_;refine od (cs':=[row _ _ _,exC _ _ _ _,row _ _ _,slv _ _ _ _ _ _]) (.inl rfl) Zu rfl rfl rfl Zh Zrf Zrf ?_;exact⟨_,_,rfl,rfl⟩
 rw[hc12];simp only[aa];refine Z_7 ?_;refine eu (bR rfl rfl) (.cons (dh rfl) .nil) (λ_ _=>rfl) (λhg w hi=>tV a2' w) rfl ?_;refine Z_4 ?_;refine ZW ?_ ?_<;>intro hc14
 .rw[hc14];simp only[ac];refine Z_2 ?_;refine dC 25 1 ?_;refine Z_3 ?_;refine ZM ?_;refine Z_5 ?_;refine od (cs':=[row _ _ _,exC _ _ _ _,row _ _ _,slv _ _ _ _ _ _]) (.inl rfl) Zu rfl rfl rfl Zh Zrf Zrf ?_;exact⟨_,_,rfl,rfl⟩
 rw[hc14];simp only[aa];refine Z_5 ?_;refine dC 25 1 ?_;refine fE ?_;refine cq (λq:Nat×Option Addr×Nat=>[(11,.pointer (some ⟨b11,0,none⟩)),(12,.int .u32 a1),(13,.pointer (some ⟨b13,0,none⟩)),(14,.int .i64 ((64 - va%64:Nat):Int)),(16,.int .u32 a2'),(17,.slice q.2.1 (lQ a1 a2' va q.1).length q.2.2),(78,.int .i64 k),(79,.int .i64 (q.1:Int))]) (λq=>uF bu bb L U'++[trC b11 Tr.none,trC b13 tr',sl .u32 25 q.2.1 (lQ a1 a2' va q.1).length q.2.2 (lQ a1 a2' va q.1)]) (λq=>q.1<=k) (λq=>k - q.1) ((0,none,0)) ?_ ?_ ?_ ?_
 .exact aq _
 .exact Zwk
 .exact Zu
 rintro⟨j,A1,c1⟩ hj;simp only at hj;dsimp only;refine Z_6 ?_;refine ZW ?_ ?_<;>intro hc18
 .simp only[aj]at hc18;have hle:=yi a1 a2' va j;refine xF ?_;refine ZW ?_ ?_<;>intro hc20
  .simp only[aj]at hc20;have he:lx a1 a2' va j=IntKind.u32.wrap (a1+(j:Int)):=by(unfold lx;rw[ax Wq1];rfl)
   refine Z_4 ?_;refine Zy (ce rfl rfl Zv0 rfl) ?_;refine Zy (df (Zv rfl) (Zv rfl) (show IntKind.u32.wrap (a1+IntKind.u32.wrap (j:Int))=lx a1 a2' va j by rw[he,u32_wrap_id (j:Int) Wq1 Wq1])) ?_;refine jO ?_;rintro _ _ ⟨b90,rfl,rfl⟩;refine gj (cD (e:=25) (sz:=1) (bytes:=4) rfl rfl Za rfl rfl (λw hi=>hi.rd (show Has _ (slv 25 1 (some ⟨b90,0,none⟩) 1 1 [.int .u32 (lx a1 a2' va j)])from Zh)) (jA rfl) gS Wq1) rfl ?_;rintro _ _ ⟨A2,c2,rfl,rfl⟩;rw[show(lQ a1 a2' va j).length+1=(lQ a1 a2' va (j+1)).length by(rw[nC];simp),show ints .u32 (lQ a1 a2' va j)++[Value.int .u32 (lx a1 a2' va j)]=ints .u32 (lQ a1 a2' va (j+1)) by(rw[nC];exact cj _ [_])];refine Z_5 ?_;refine Wq8 ?_;refine dW ((j+1,A2,c2)) ?_ ?_ ?_
   .exact⟨by show j+1<=k;omega,by show k - (j+1)<k - j;omega⟩
   .exact Zwk
   exact Zu
  simp only[ah]at hc20;have he:lx a1 a2' va j=IntKind.u32.wrap (a2'+((j - (64 - va%64):Nat):Int)):=by(unfold lx;rw[aw Wq1];rfl)
  refine Z_5 ?_;refine Zy (eE (Zv rfl) (Zv rfl) (show IntKind.i64.wrap ((j:Int) - ((64 - va%64:Nat):Int))=((j - (64 - va%64):Nat):Int) by rw[bF _ ⟨by omega,by omega⟩];omega)) ?_;refine Zy (ce rfl rfl Zv0 rfl) ?_;refine Zy (df (Zv rfl) (Zv rfl) (show IntKind.u32.wrap (a2'+IntKind.u32.wrap ((j - (64 - va%64):Nat):Int))=lx a1 a2' va j by rw[he,u32_wrap_id (((j - (64 - va%64):Nat):Int)) Wq1 Wq1])) ?_;refine jO ?_;rintro _ _ ⟨b99,rfl,rfl⟩;refine gj (cD (e:=25) (sz:=1) (bytes:=4) rfl rfl Za rfl rfl (λw hi=>hi.rd (show Has _ (slv 25 1 (some ⟨b99,0,none⟩) 1 1 [.int .u32 (lx a1 a2' va j)])from Zh)) (jA rfl) gS Wq1) rfl ?_;rintro _ _ ⟨A2,c2,rfl,rfl⟩;rw[show(lQ a1 a2' va j).length+1=(lQ a1 a2' va (j+1)).length by(rw[nC];simp),show ints .u32 (lQ a1 a2' va j)++[Value.int .u32 (lx a1 a2' va j)]=ints .u32 (lQ a1 a2' va (j+1)) by(rw[nC];exact cj _ [_])];refine Z_5 ?_;refine Wq8 ?_;refine dW ((j+1,A2,c2)) ?_ ?_ ?_
  .exact⟨by show j+1<=k;omega,by show k - (j+1)<k - j;omega⟩
  .exact Zwk
  exact Zu
 simp only[ah]at hc18;obtain rfl:j=k:=by omega
 refine Z_6 ?_;refine bU ⟨λj=>List.elem j [3],[]⟩ Zk ?_;refine ZE 0 ?_;refine ZI 1 ?_;refine ZE 2 ?_;refine cn 3 Zk ?_;refine ZR ?_;refine dx ?_;refine Z_2 ?_;refine od (cs':=[row _ _ _,exC _ _ _ _,row _ _ _,slv _ _ _ _ _ _]) (.inl rfl) Zu rfl rfl rfl Zh Zrf Zrf ?_;exact⟨_,_,rfl,rfl⟩
theorem Jv(bu bb:Nat)(L:fu)(U:Mmu)(hT:U.t.length=16)(s:Sp)(hr:s.root<=4294967295)(va k:Nat)(hva:va<=4294967295)(hk1:1<=k)(hk4:k<=4)(w:World)(hi:Inv w (bM (uF bu bb L U)) (uF bu bb L U) w):
  Ctr prog 247 [.pointer (some ⟨bu,0,none⟩),s.v,.int .u32 va,.int .i64 k] w (uF bu bb L U) (λv cs=>v= .tuple #[.int .u32 (pC L.n U s va k).1.1,(pC L.n U s va k).1.2.v]/\cs=uF bu bb L (pC L.n U s va k).2):=by
 obtain⟨n1,n64,_⟩:=mj (hi.ok (eA L U.m) cE);have HS:=F1 bu bb L U hT s hr va k hva hk1 hk4 2;have hin0:=yh (n:=L.n) (U:=U) (s:=s) (va:=va) (k:=k) n64 hva (kind:=2) hk4;have hlen0:=qf (n:=L.n) (U:=U) (s:=s) (va:=va) (k:=k) (kind:=2);unfold pC;obtain⟨sp,hsp⟩:=Zgn (fm L.n U s va k 2);rw[hsp]at HS hin0 hlen0|-;obtain⟨⟨l,tr⟩,U'⟩:=sp;simp only at HS hin0 hlen0|-;refine bN func247 rfl ntmps247 rfl hi ?_;refine Z_2 ?_;refine ZO λb5=>?_;refine ZA ?_;refine ZN λb9=>?_
 refine Z_8 ?_;refine ZcL (uF bu bb L U) (λw hi hin=>HS w hin) ?_;rintro _ _ ⟨_,⟨A1,c1,rfl,rfl⟩,rfl⟩;refine Z_3 ?_;refine ZN λb11=>?_
 refine ZA ?_;refine dH (bZ (vs:=tr.cells) Zrf rfl rfl (jA rfl) Za (by exact rfl)) ?_;rintro _ _ ⟨rfl,rfl⟩;refine Z_4 ?_;refine dU (λw hi=>mj (hi.get (show Has _ (eA L U'.m)from Zh))) (λhmm=>?_);obtain⟨_,_,hdl,hdb,_⟩:=hmm;refine Z_6 ?_;have e0:gK U'.m.data (l.drop l.length)=0:=by(rw[List.drop_length];rfl)
 refine Z_2 ?_;refine Zy (eE Zv0 Zv0 Zl) ?_;refine Z_4 ?_;refine cq (λj:Nat=>[(0,.pointer (some ⟨bu,0,none⟩)),(9,.pointer (some ⟨b9,0,none⟩)),(10,.slice A1 l.length c1),(11,.pointer (some ⟨b11,0,none⟩)),(12,.int .u32 (gK U'.m.data (l.drop j))),(13,.int .i64 ((j:Int) - 1))]) (λ_=>uF bu bb L U'++[sl .u32 25 A1 l.length c1 l,trC b9 Tr.none,trC b11 tr]) (λj=>j<=l.length) (λj=>j) (l.length) ?_ ?_ ?_ ?_
 .exact aM _
 .exact Zwk
 .exact Zu
 rintro j hj;refine Z_7 ?_;refine ZW ?_ ?_<;>intro hc4
 .simp only[aj]at hc4;obtain⟨i,rfl⟩:∃i,j=i+1:=⟨j - 1,by omega⟩;have hil:i<l.length:=by omega
  have hrange:=hin0 _ (List.getElem_mem hil);refine zP (λw hi=>ez (hi.get (show Has _ (sl .u32 25 A1 l.length c1 l)from Zh)) Wq1) ?_;rintro⟨ba,rfl⟩;obtain⟨an,han⟩:=ar hrange.1;refine Z_5 ?_;refine bU ⟨λj=>List.elem j [],[]⟩ Zk ?_;refine gO ?_;refine ZFe 2 0 ?_;refine ZG 3 ?_;refine ZE 4 ?_;refine ZE 5 ?_;refine cG 6 rfl Zk Zk Zk (cw (j:=i) (sz:=1) (r:=i) rfl Zrf (Zv rfl) (Zv rfl) Wq4 Wq4 Wq1) rfl ?_;refine dD 7 rfl Zk Zk Zk Zk (bQ Zrf (Zv rfl)) (dm Zh (show(ints .u32 l)[i]? =some (.int .u32 (an:Int))from by rw[<-han];exact nM hil)) rfl ?_;refine cn 8 Zk ?_;refine ZT (λw hi=>Kb L U'.m an Wq1 w (hi.get Zh)) ?_;rintro _ _ ⟨_,⟨rfl,rfl⟩,rfl⟩;refine ZE 9 ?_;refine ZE 10 ?_;refine ZE 11 ?_;refine ZE 12 ?_;refine ZE 13 ?_;refine dx ?_;refine Z_2 ?_;have hg:=ji hdb an;have hst:=w8 hdb (show l.length<=4 by omega) hil;rw[han]at hst;refine ZA ?_;refine Zy (v7 (Zv rfl) (Zv rfl) Wq1 rfl) ?_;refine ZA ?_;refine Zy (ce rfl rfl (Zv rfl) (by first|exact IntWalk.u32_in _ ⟨by omega,by omega⟩|exact rfl)) ?_;refine Zy (CX Zv0 Zv0 hst) ?_;refine Z_6 ?_;refine Zy (eE Zv0 Zv0 Zl) ?_;refine Z_2 ?_;refine bX (i) ?_ ?_ ?_
  .exact⟨by omega,by omega⟩
  .exact Zwk
  exact Zj
 simp only[ah]at hc4;obtain rfl:j=0:=by omega
 rw[List.drop_zero];refine Z_6 ?_;refine bU ⟨λj=>List.elem j [3],[]⟩ Zk ?_;refine ZE 0 ?_;refine ZI 1 ?_;refine ZE 2 ?_;refine cn 3 Zk ?_;refine ZR ?_;refine dx ?_;refine Z_2 ?_;refine bP (uF bu bb L U'++[trC b9 tr]) Zj ?_;refine od (cs':=[row _ _ _,exC _ _ _ _,row _ _ _]) (.inl rfl) Zu rfl rfl rfl Zh Zrf Zrf ?_;exact de
theorem Fb(bu bb:Nat)(L:fu)(U:Mmu)(hT:U.t.length=16)(s:Sp)(hr:s.root<=4294967295)(va k:Nat)(v:Int)(hva:va<=4294967295)(hk1:1<=k)(hk4:k<=4)(w:World)(hi:Inv w (bM (uF bu bb L U)) (uF bu bb L U) w):
  Ctr prog 245 [.pointer (some ⟨bu,0,none⟩),s.v,.int .u32 va,.int .u32 v,.int .i64 k] w (uF bu bb L U) (λx cs=>x=(nX L.n U s va k v).1.v/\cs=uF bu bb L (nX L.n U s va k v).2):=by
 obtain⟨n1,n64,_⟩:=mj (hi.ok (eA L U.m) cE);have HS:=F1 bu bb L U hT s hr va k hva hk1 hk4 3;have hin0:=yh (n:=L.n) (U:=U) (s:=s) (va:=va) (k:=k) n64 hva (kind:=3) hk4;have hlen0:=qf (n:=L.n) (U:=U) (s:=s) (va:=va) (k:=k) (kind:=3);unfold nX;obtain⟨sp,hsp⟩:=Zgn (fm L.n U s va k 3);rw[hsp]at HS hin0 hlen0|-;obtain⟨⟨l,tr⟩,U'⟩:=sp;simp only at HS hin0 hlen0|-;refine bN func245 rfl ntmps245 rfl hi ?_;refine Z_2 ?_;refine ZO λb6=>?_;refine ZN λb10=>?_
 refine Z_8 ?_;refine ZcL (uF bu bb L U) (λw hi hin=>HS w hin) ?_;rintro _ _ ⟨_,⟨A1,c1,rfl,rfl⟩,rfl⟩;refine Z_3 ?_;refine ZN λb12=>?_
 refine ZA ?_;refine dH (bZ (vs:=tr.cells) Zrf rfl rfl (jA rfl) Za (by exact rfl)) ?_;rintro _ _ ⟨rfl,rfl⟩;refine fE ?_;refine cq (λj:Nat=>[(0,.pointer (some ⟨bu,0,none⟩)),(3,.int .u32 v),(10,.pointer (some ⟨b10,0,none⟩)),(12,.pointer (some ⟨b12,0,none⟩)),(23,.slice A1 l.length c1),(24,.int .i64 l.length),(25,.int .i64 (j:Int))]) (λj=>uF bu bb L ⟨Nm U'.m l v j,U'.t⟩++[sl .u32 25 A1 l.length c1 l,trC b10 Tr.none,trC b12 tr]) (λj=>j<=l.length) (λj=>l.length - j) (0) ?_ ?_ ?_ ?_
 .exact aq _
 .exact Zwk
 .exact Zu
 rintro j hj;refine Z_6 ?_;refine ZW ?_ ?_<;>intro hc3
 .simp only[aj]at hc3;have hil:j<l.length:=by omega
  have hrange:=hin0 _ (List.getElem_mem hil);refine zP (λw hi=>ez (hi.get (show Has _ (sl .u32 25 A1 l.length c1 l)from Zh)) Wq1) ?_;rintro⟨ba,rfl⟩;obtain⟨an,han⟩:=ar hrange.1;have hgd:(l.getD j 0).toNat=an:=by(rw[aF,ai hil];simp only[Option.getD_some,han];omega)
  refine Z_7 ?_;refine Zy (cw (j:=j) (sz:=1) (r:=j) rfl Zrf (Zv rfl) (Zv rfl) Wq4 Wq4 Wq1) ?_;refine dN (bQ Zrf (Zv rfl)) (dm Zh (show(ints .u32 l)[j]? =some (.int .u32 (an:Int))from by rw[<-han];exact nM hil)) rfl ?_;refine Z_4 ?_;refine bU ⟨λj=>List.elem j [10],[]⟩ Zk ?_;refine gO ?_;refine ZFe 2 0 ?_;refine ZG 3 ?_;refine ZE 4 ?_;refine ZE 5 ?_;refine ZE 6 ?_;refine cG 7 rfl Zk Zk Zk (jk Zv0 Zv0 rfl) rfl ?_;refine cG 8 rfl Zk Zk Zk (ko (Zv rfl) (Zv rfl) (by rw[bF _ ⟨by omega,by omega⟩];omega) rfl) rfl ?_;refine cG 9 rfl Zk Zk Zk (ce rfl rfl (Zv rfl) (zR v (show j<4 by omega))) rfl ?_;refine cn 10 Zk ?_;refine ZcA ([eA L (Nm U'.m l v j)]) (λw hi hin=>wL L (Nm U'.m l v j) an Wq1 (nR v j) (oO v j) w hin) ?_;rintro _ _ ⟨_,⟨rfl,rfl⟩,rfl⟩;refine dx ?_;refine Z_3 ?_;refine Wq8 ?_;refine bX (j+1) ?_ ?_ ?_
  .exact⟨by omega,by omega⟩
  .exact Zwk
  exact(show zD _ _ from by rw[show Nm U'.m l v (j+1)=(Nm U'.m l v j).put an (nR v j) by rw[Nm,hgd]];exact Zj)
 simp only[ah]at hc3;obtain rfl:j=l.length:=by omega
 refine Z_8 ?_;refine ZM ?_;refine Z_3 ?_;refine bP (uF bu bb L ⟨Nm U'.m l v l.length,U'.t⟩++[trC b10 tr]) Zj ?_;refine mi (cs':=[row _ _ _,exC _ _ _ _,row _ _ _]) (.inl rfl) Zu rfl rfl Zh Zrf Zrf ?_;exact de
end Go.Proofs.YtkegldppffignaaGreatDoor
