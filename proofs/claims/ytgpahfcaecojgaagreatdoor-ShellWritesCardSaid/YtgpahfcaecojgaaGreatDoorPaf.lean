/- Lemmas. -/
import Derived.Test.YtgpahfcaecojgaaGreatDoorPae
import Derived.Lib.EndianBits
set_option linter.all false
set_option maxRecDepth 100000
set_option maxHeartbeats 4000000
namespace Go.Ink
open Go.RowKit Go.Proofs.Tryz
def jQ(l:List Bool):List Value:=l.map Value.bool
theorem kO(l:List Bool):(jQ l).length=l.length:=by simp[jQ]
variable{j:Nat}{b:Bool}
theorem Jc{l:List Bool}(h:l[j]? =some b):(jQ l)[j]? =some (.bool b):=by simp[jQ,h]
theorem Ep(l:List Bool)(j:Nat)(b:Bool):(jQ l).set j (.bool b)=jQ (l.set j b):=by simp[jQ]
theorem fQ{k:IntKind}(xs:Li)(j:Nat)(v:Int):(ints k xs).set j (.int k v)=ints k (xs.set j v):=by simp[ints]
def dp(B ow pr:Li):List Value:=ints .u8 B++(ints .i64 ow++ints .i64 pr)
structure du(B ow pr:Li):Prop where
 b:B.length=16384
 ow:ow.length=256
 pr:pr.length=4
section
variable {B ow pr:Li}
theorem iQ(h:du B ow pr):(dp B ow pr).length=16644:=by
 simp[dp,dA,h.b,h.ow,h.pr]
theorem pool_B{i:Nat}{v:Int}(h:B[i]? =some v):(dp B ow pr)[i]? =some (.int .u8 v):=by
 grind [dp,dA,cK]
theorem rY(hl:du B ow pr){i:Nat}{v:Int}(h:ow[i]? =some v):(dp B ow pr)[16384+i]? =some (.i v):=by
 grind [dp,dA,hl.b,cK]
theorem Fv(hl:du B ow pr){i:Nat}{v:Int}(h:pr[i]? =some v):(dp B ow pr)[16640+i]? =some (.i v):=by
 grind [dp,dA,hl.b,hl.ow,cK]
theorem Nu{i:Nat}(hi:i<B.length)(v:Int):(dp B ow pr).set i (.int .u8 v)=dp (B.set i v) ow pr:=by
 grind [dp,dA,fQ]
theorem rX(hl:du B ow pr){i:Nat}(hi:i<256)(v:Int):(dp B ow pr).set (16384+i) (.i v)=dp B (ow.set i v) pr:=by
 grind [dp,dA,hl.b,hl.ow,fQ]
theorem rW(hl:du B ow pr){i:Nat}(v:Int):(dp B ow pr).set (16640+i) (.i v)=dp B ow (pr.set i v):=by
 grind [dp,dA,hl.b,hl.ow,fQ]
def eJ(B:Li)(f:Nat):List Int:=B.take (f*64)++List.replicate 64 0++B.drop (f*64+64)
theorem Nt(hl:du B ow pr){f:Nat}(hf:f<256):(dp B ow pr).take (f*64)++List.replicate 64 (Value.int .u8 0)++(dp B ow pr).drop (f*64+64)=dp (eJ B f) ow pr:=by
 unfold dp eJ;have h1:f*64<=(ints .u8 B).length:=by rw[dA,hl.b];omega
 have h2:f*64+64<=(ints .u8 B).length:=by rw[dA,hl.b];omega
 rw[List.take_append_of_le_length h1,List.drop_append_of_le_length h2,<-aq _ _ (ints .i64 ow++ints .i64 pr)];simp[ints]
theorem zN(hB:B.length=16384){f:Nat}(hf:f<256):(eJ B f).length=16384:=by
 grind [eJ]
theorem Ch(hB:B.length=16384){f j:Nat}(hf:f<256)(hj:j<64):(eJ B f)[f*64+j]? =some 0:=by
 grind [eJ]
theorem p5(hB:B.length=16384){f i:Nat}(hf:f<256)(hi:i<f*64\/f*64+64<=i):(eJ B f)[i]? =B[i]? :=by
 unfold eJ;rcases hi with hi|hi
 .grind
 rw[List.getElem?_append_right bY,List.getElem?_drop]
 grind
end
def cQ(ow:Li)(o:Int)(k:Nat):List Int:=((List.range k).filter (λf=>ow[f]? ==some o)).map (λf:Nat=>(f:Int))
theorem wC(ow:Li)(o:Int)(k:Nat):cQ ow o (k+1)=cQ ow o k++(bif ow[k]? ==some o then[(k:Int)]else[]):=by
 grind [cQ,List.range_succ]
theorem OU(ow:Li)(o:Int)(k:Nat):(cQ ow o k).length<=k:=by
 grind [cQ]
section
attribute [local irreducible] OpY bN
abbrev dD(bp:Nat)(B ow pr:Li):bJ:=row bp (dp B ow pr) 157
theorem fis_ok(n:Int)(w:World):CW prog 129 [.i n] w (.bool (decide (0<=n)&&decide (n<4))):=by
 refine Zfs func129 ntmps129 ?_;refine ue ?_;exact ru
theorem IF(n:Int)(w:World):CW prog 157 [.i n] w (.bool (decide (16<=n)&&decide (n<256))):=by
 refine Zfs func157 ntmps157 ?_;refine ue ?_;exact ru
theorem Sa(bp:Nat)(B ow pr:Li)(hl:du B ow pr)(f:Nat)(o:Int)(h1:16<=f)(h2:f<256)(h3:ow[f]? =some o)(h4:o≠ -1)(w:World)(hp:(dD bp B ow pr).ok w):
  CW prog 176 [.p bp,.i f] w (.tuple #[.i o,.bool true]):=by
 refine Zfs func176 ntmps176 ?_;refine fH ?_;refine ZSe (λw hi=>IF f w) ?_;rw[aE (show(16:Int)<=f by omega),aE (show(f:Int)<256 by omega)];refine Z_5 ?_;refine ZFb 16384 ?_;refine Zyn rfl rfl (dz (j:=f) (sz:=1) (r:=16384+f) rfl Zrf (cA rfl) (cA rfl) Wq2 Wq2 Wq1) ?_;refine gQ (bQ rfl rfl) (bM Zrf (cA rfl)) (dr hp (rY hl h3)) rfl (Z_4 ?_);refine cy rfl ((show(_||(o== -1))=false from by grind)) (Z_7 ?_);refine ZFa 16384 ?_;refine Zy (dz (j:=f) (sz:=1) (r:=16384+f) rfl Zrf (Zv rfl) (Zv rfl) Wq2 Wq2 Wq1) ?_;refine dQ (bM Zrf Zv0) (dr hp (rY hl h3)) rfl (Z_5 ?_);exact lc
theorem OS(bp:Nat)(B ow pr:Li)(hl:du B ow pr)(f a:Nat)(o:Int)(h1:16<=f)(h2:f<256)(h3:ow[f]? =some o)(h4:o≠ -1)(h5:a<64)(w:World)(hp:(dD bp B ow pr).ok w):
  CW prog 156 [.p bp,.i f,.i a] w (.bool true):=by
 refine Zfs func156 ntmps156 ?_;refine Z_9 ?_;refine ZSe (λw hi=>Sa bp B ow pr hl f o h1 h2 h3 h4 w (bJ.old hp hi)) ?_;refine om ?_;refine Z_2 ?_;refine Zra ?_;rw[aE (show(0:Int)<=a by omega),aE (show(a:Int)<64 by omega)];exact gr
theorem R8(bp:Nat)(B ow pr:Li)(hl:du B ow pr)(f a:Nat)(o b:Int)(h1:16<=f)(h2:f<256)(h3:ow[f]? =some o)(h4:o≠ -1)(h5:a<64)(h6:B[f*64+a]? =some b)(w:World)(hp:(dD bp B ow pr).ok w):
  CW prog 141 [.p bp,.i f,.i a] w (.tuple #[.int .u8 b,.bool true]):=by
 refine Zfs func141 ntmps141 ?_;refine fb ?_;refine ZSe (λw hi=>OS bp B ow pr hl f a o h1 h2 h3 h4 h5 w (bJ.old hp hi)) ?_;refine iX ?_;refine Z_9 ?_;refine Wq411 ?_;refine dQ (bM Zrf Zv0) (dr hp (pool_B h6)) rfl (Z_5 ?_);exact lc
theorem Nl(bp:Nat)(B ow pr:Li)(hl:du B ow pr)(f a:Nat)(o b:Int)(h1:16<=f)(h2:f<256)(h3:ow[f]? =some o)(h4:o≠ -1)(h5:a<64):CI prog 135 [.p bp,.i f,.i a,.int .u8 b] [dD bp B ow pr] (λv cs=>v= .bool true/\cs=[dD bp (B.set (f*64+a) b) ow pr]):=λw hi=>by
 have hb:=hl.b;refine Zfn func135 ntmps135 hi ?_;refine gq ?_;refine ZSe (λw hi=>OS bp B ow pr hl f a o h1 h2 h3 h4 h5 w (hi.get Zh)) ?_;refine iX ?_;refine fH ?_;refine Wq411 ?_;refine UE ?_;rintro _ _ ⟨rfl,rfl⟩;rw[Nu Wq1];refine Z_8 ?_;exact BX
theorem F8(bp:Nat)(B ow pr:Li)(hl:du B ow pr)(o:Nat)(ho:o<4)(w:World)(hp:(dD bp B ow pr).ok w):
  Ctr prog 116 [.p bp,.i o] w [] (λv cs=>∃A c,v= .slice A (cQ ow o 256).length c/\cs=[sl .i64 3 A (cQ ow o 256).length c (cQ ow o 256)]):=by
 refine Zfs func116 ntmps116 ?_;refine jl ?_;refine LB ?_;refine iX ?_;refine Z_5 ?_;refine cY 3 1 (Z_4 ?_);refine wLo (λs:Nat×Option Addr×Nat=>[(0,.p bp),(1,.i o),(5,.slice s.2.1 (cQ ow o s.1).length s.2.2),(11,.i s.1)]) (λs=>[sl .i64 3 s.2.1 (cQ ow o s.1).length s.2.2 (cQ ow o s.1)]) (λs=>s.1<=256) (λs=>256 - s.1) ((0,none,0)) Wq1 ?_;rintro⟨k,A1,c1⟩ hk;simp only at hk;dsimp only;refine Zw6 ?_ ?_<;>intro hc5
 .simp only[ac]at hc5;have hkl:k<ow.length:=by(rw[hl.ow];omega)
  have hok:ow[k]? =some (ow[k]'hkl):=ae hkl;have hle:=OU ow o k;refine oU ?_;refine Wq356 ?_;refine dQ (bM Zrf Zv0) (dr hp (rY hl hok)) rfl (Z_4 ?_);refine ZW ?_ ?_<;>intro hc7
  .have he:cQ ow o (k+1)=cQ ow o k++[(k:Int)]:=by(rw[wC,hok];grind)
   refine Z_3 ?_;refine jD ?_;rintro _ _ ⟨b24,rfl,rfl⟩;refine fo (bV (e:=3) (sz:=1) (bytes:=8) rfl rfl Za rfl rfl (λw hi=>hi.rd Zh) (mQ rfl) Wq9 Wq1) rfl ?_;rintro _ _ ⟨A2,c2,rfl,rfl⟩;rw[show(cQ ow o k).length+1=(cQ ow o (k+1)).length by grind,show ints .i64 (cQ ow o k)++[Value.i (k:Int)]=ints .i64 (cQ ow o (k+1)) by(rw[he];exact cj _ [_])];refine lI ?_;refine qMM ((k+1,A2,c2)) Wq1
  have he:cQ ow o (k+1)=cQ ow o k:=by(rw[wC,hok,show(some (ow[k]'hkl)==some (o:Int))=false from hc7];simp)
  rw[<-he];refine jS ?_;refine qMM ((k+1,A1,c1)) Wq1
 simp only[aa]at hc5;obtain rfl:k=256:=by omega
 refine fb ?_;exact Qg
theorem take_ok(bp:Nat)(B ow pr:Li)(hl:du B ow pr)(o:Nat)(ho:o<4)(n:Int)(hn:pr[o]? =some n)(hlt:((cQ ow o 256).length:Int)<n)(f0:Nat)(h16:16<=f0)(h256:f0<256)(hf0:ow[f0]? =some (-1)):CI prog 155 [.p bp,.i o] [dD bp B ow pr] (λv cs=>∃f:Nat,16<=f/\f<256/\ow[f]? =some (-1)/\v= .tuple #[.i f,.i 0]/\cs=[dD bp (eJ B f) (ow.set f o) pr]):=λw hi=>by
 have hb:=hl.b;have how:=hl.ow;refine Zfn func155 ntmps155 hi ?_;refine gq ?_;refine LB ?_;refine Z_4 ?_;refine kv ?_;refine Zs (bU (Zdn []) Zk ?_);refine pP ?_;refine ZE 4 ?_;refine kU ?_;refine ZFe 7 16640 ?_;refine Zy4 8 rfl (dz (j:=o) (sz:=1) (r:=16640+o) rfl Zrf (Zv rfl) (Zv rfl) (λ_=>by omega) (λ_=>by omega) (by omega)) ?_;refine Zy5 9 rfl (bM Zrf Zv0) (cB Zh (Fv hl hn)) ?_;refine cW 2 Zk (ZTn (λw hi=>F8 bp B ow pr hl o ho w (hi.get Zh)) ?_);rintro _ _ ⟨A1,c1,rfl,rfl⟩;refine ZE 3 ?_;refine ZE 10 ?_;refine ZE 11 ?_;refine dR ?_;refine Zt (cy rfl ((aF (by omega))) ?_);refine fH ?_;refine wLo (λk:Nat=>[(0,.p bp),(1,.i o),(6,.i (k:Int))]) (λ_=>[dD bp B ow pr]) (λk=>16<=k/\k<=f0) (λk=>f0 - k) (16) (by omega) ?_;rintro k ⟨hk1,hk2⟩;refine Zw7 ?_ ?_<;>intro hc6
 .have hkl:k<ow.length:=by omega
  have hok:ow[k]? =some (ow[k]'hkl):=ae hkl;refine Z_9 ?_;refine ZFa 16384 ?_;refine Zy (dz (j:=k) (sz:=1) (r:=16384+k) rfl Zrf (Zv rfl) (Zv rfl) (λ_=>by omega) (λ_=>by omega) (by omega)) ?_;refine dQ (bM Zrf Zv0) (cB Zh (rY hl hok)) rfl (Zw3 ?_ ?_)<;>intro hc8
  .have h2:ow[k]'hkl= -1:=bY;rw[h2]at hok;refine Z_6 ?_;refine ZFa 16384 ?_;refine Zy (dz (j:=k) (sz:=1) (r:=16384+k) rfl Zrf (Zv rfl) (Zv rfl) (λ_=>by omega) (λ_=>by omega) (by omega)) ?_;refine UE ?_;rintro _ _ ⟨rfl,rfl⟩;rw[rX hl (show k<256 by omega)];have hl':du B (ow.set k o) pr:=⟨hl.b,by grind,hl.pr⟩;refine Z_6 ?_;refine Zy (iK (vs:=List.replicate 64 (Value.int .u8 0)) Zk (.inr ⟨_,_,_,rfl,λ_=>rfl⟩)) ?_;refine Z_2 ?_;refine Zy (dz (j:=k) (sz:=64) (r:=k*64) rfl Zrf (Zv rfl) (Zv rfl) (λ_=>by omega) (λ_=>by omega) (by omega)) ?_;refine eT (kz (n:=64) Zrf rfl rfl (λu hu=>by rw[List.eq_of_mem_replicate hu];rfl) Za (aI) (by rw[iQ hl',aI];omega)) ?_;rintro _ _ ⟨rfl,rfl⟩;rw[aI,Nt hl' (show k<256 by omega)];refine oU ?_;exact AH (cs':=[row _ _ _]) (.inl rfl) Zu rfl rfl rfl ⟨k,hk1,by omega,hok,rfl,rfl⟩
  have h2:ow[k]'hkl≠ -1:=bY;have hne:k≠f0:=by(grind)
  refine lI ?_;refine qMM (k+1) (by omega)
 grind
variable{α:Type}{n k:Nat}
theorem AK(a b:α)(h:k<n):(List.replicate k a++List.replicate (n - k) b).set k a=List.replicate (k+1) a++List.replicate (n - (k+1)) b:=by
 rw[List.set_append_right _ _ cP,aI,Nat.sub_self,show n - k=(n - (k+1))+1 by omega,List.replicate_succ,List.set_cons_zero,List.replicate_succ',aq]
 rfl
theorem Fp(n:Nat)(a b:α):List.replicate n a++List.replicate (n - n) b=List.replicate n a:=by simp
theorem AL(n:Nat)(a b:α):List.replicate 0 a++List.replicate (n - 0) b=List.replicate n b:=by simp
theorem rS(k:IntKind)(n:Nat)(a:Int):List.replicate n (Value.int k a)=ints k (List.replicate n a):=by simp[ints]
theorem Hq(n:Nat)(a:Bool):List.replicate n (Value.bool a)=jQ (List.replicate n a):=by simp[jQ]
theorem Hw{B ow pr:Li}(hl:du B ow pr):((dp B ow pr).drop 16640).take (ints .i64 pr).length=ints .i64 pr:=by
 grind [dp,dA,hl.b,hl.ow,ints,List.append_assoc,List.drop_append,List.drop_eq_nil_of_le,List.take_length]
def fX(pr:Li)(k:Nat):Int:=(pr.take k).foldl (λs x=>s+(if 0>x then 0 else x)) 0
theorem oB{pr:Li}(h:k<pr.length):fX pr (k+1)=fX pr k+(if 0>pr[k]'h then 0 else pr[k]'h):=by
 grind [fX,List.take_succ_eq_append_getElem]
theorem Pb(w:World):Ctr prog 54 [] w [] (λv cs=>∃bp,v= .p bp/\cs=[dD bp (List.replicate 16384 0) (List.replicate 256 (-1)) (List.replicate 4 (-1))]):=by
 have hl1:∀k,k<=256->du (List.replicate 16384 0) (List.replicate k (-1)++List.replicate (256 - k) 0) (List.replicate 4 0):=λk hk=>⟨aI,by simp;omega,rfl⟩
 have hl2:∀k,k<=4->du (List.replicate 16384 0) (List.replicate 256 (-1)) (List.replicate k (-1)++List.replicate (4 - k) 0):=λk hk=>⟨aI,aI,by simp;omega⟩
 refine Zfs func54 ntmps54 ?_;refine Z_7 ?_;refine Zy (iK (vs:=dp (List.replicate 16384 0) (List.replicate 256 0) (List.replicate 4 0)) Zk (.inl ⟨_,rfl,rfl⟩)) ?_;refine ZO λb5=>?_
 rw[<-AL 256 (-1:Int) 0];refine fH ?_;refine wLo (λk:Nat=>[(1,.p b5),(6,.i (k:Int))]) (λk=>[dD b5 (List.replicate 16384 0) (List.replicate k (-1)++List.replicate (256 - k) 0) (List.replicate 4 0)]) (λk=>k<=256) (λk=>256 - k) (0) Wq1 ?_;rintro k hk;refine Zw6 ?_ ?_<;>intro hc3
 .simp only[ac]at hc3;refine jl ?_;refine Wq356 ?_;refine eT (ij Zrf rfl rfl rfl Za (by rw[iQ (hl1 k hk)];omega)) ?_;rintro _ _ ⟨rfl,rfl⟩;rw[rX (hl1 k hk) Wq1,AK _ _ Wq1];refine jS ?_;refine qMM (k+1) Wq1
 simp only[aa]at hc3;obtain rfl:k=256:=by omega
 refine Z_8 ?_;rw[Fp,<-AL 4 (-1:Int) 0];refine Z_4 ?_;refine wLo (λk:Nat=>[(1,.p b5),(15,.i (k:Int))]) (λk=>[dD b5 (List.replicate 16384 0) (List.replicate 256 (-1)) (List.replicate k (-1)++List.replicate (4 - k) 0)]) (λk=>k<=4) (λk=>4 - k) (0) Wq1 ?_;rintro k hk;refine Zw6 ?_ ?_<;>intro hc8
 .simp only[ac]at hc8;refine jl ?_;refine ZFa 16640 ?_;refine Zy (dz (j:=k) (sz:=1) (r:=16640+k) rfl Zrf (Zv rfl) (Zv rfl) Wq2 Wq2 Wq1) ?_;refine eT (ij Zrf rfl rfl rfl Za (by rw[iQ (hl2 k hk)];omega)) ?_;rintro _ _ ⟨rfl,rfl⟩;rw[rW (hl2 k hk),AK _ _ Wq1];refine jS ?_;refine qMM (k+1) Wq1
 simp only[aa]at hc8;obtain rfl:k=4:=by omega
 refine Z_7 ?_;rw[Fp];refine Z_5 ?_;refine Zrb ([row _ _ _]) ?_;exact⟨_,rfl,rfl⟩
theorem Ki(bp:Nat)(B ow pr:Li)(hl:du B ow pr)(o n:Nat)(ho:o<4)(hn:n<=64)(h1:pr[o]? =some (-1))(hs:(n:Int)+fX pr 4<=240)(hb:∀x,x∈pr->x<=1000):CI prog 107 [.p bp,.i o,.i n] [dD bp B ow pr] (λv cs=>v= .i 0/\cs=[dD bp B ow (pr.set o n)]):=λw hi=>by
 have hpl:=hl.pr;have hbd:∀k,k<=4->0<=fX pr k/\fX pr k<=1000*(k:Int):=by
  intro k
  induction k with
  |zero=>intro _;exact⟨by simp[fX],by simp[fX]⟩
  |succ k ih=>
   intro hk;have h1:=ih Wq1;have hkl:k<pr.length:=by omega
   have h2:=hb _ (List.getElem_mem hkl);rw[oB hkl];omega
 refine Zfn func107 ntmps107 hi ?_;refine fH ?_;refine LB ?_;refine fb ?_;refine cy rfl (bY) (Z_5 ?_);refine UU ?_;refine dQ (bM Zrf Zv0) (cB Zh (Fv hl h1)) rfl (Z_4 ?_);refine kv ?_;refine fb ?_;have e0:fX pr 0=0:=rfl;refine Z_2 ?_;refine ZFa 16640 ?_;refine dQ (bW (vs:=ints .i64 pr) Zrf (λw=>by rw[dA,hpl];rfl) (Zv rfl)) (cX (o:=16640) Zh (Hw hl)) rfl (Z_4 ?_);refine wLo (λk:Nat=>[(0,.p bp),(1,.i o),(2,.i n),(7,.i (n+fX pr k)),(34,.agg (ints .i64 pr).toArray),(35,.i (k:Int))]) (λ_=>[dD bp B ow pr]) (λk=>k<=4) (λk=>4 - k) (0) Wq1 ?_;rintro k hk;refine Zw6 ?_ ?_<;>intro hc7
 .simp only[ac]at hc7;have hkl:k<pr.length:=by omega
  have hbk:=hbd k hk;have hbk2:=hb _ (List.getElem_mem hkl);refine Wq478 ?_;refine dQ (eK (pk rfl) (pk rfl) (show IntKind.i64.wrap _=n+fX pr (k+1) by rw[oB hkl];refine(bD _ ⟨?_,?_⟩).trans Wq1<;>split<;>omega)) (λ_ _=>trivial) rfl ?_;refine lI ?_;refine qMM (k+1) Wq1
 simp only[aa]at hc7;obtain rfl:k=4:=by omega
 refine fb ?_;refine cy rfl ((aF Wq1)) (Z_8 ?_);refine UU ?_;refine UE ?_;rintro _ _ ⟨rfl,rfl⟩;rw[rW hl];refine Z_8 ?_;exact BX
abbrev jX(bt bp:Nat)(o:Nat)(bf bg n:Nat):bJ:=row bt [.p bp,.i o,.slice (sA bf) n n,.slice (sA bg) n n] 187
abbrev frC(bf n:Nat)(fr:Li):bJ:=sl .i64 3 (sA bf) n n fr
abbrev gdC(bg n:Nat)(gd:List Bool):bJ:=slv 4 1 (sA bg) n n (jQ gd)
theorem nnew_ok(bp:Nat)(B ow pr:Li)(hl:du B ow pr)(o n:Nat)(ho:o<4)(hn0:1<=n)(hn:n<=64)(h1:pr[o]? =some (-1))(hs:(n:Int)+fX pr 4<=240)(hb:∀x,x∈pr->x<=1000):CI prog 76 [.p bp,.i o,.i n] [dD bp B ow pr] (λv cs=>∃bt bf bg,v= .tuple #[.p bt,.i 0]/\cs=[dD bp B ow (pr.set o n),jX bt bp o bf bg n,frC bf n (List.replicate n (-1)),gdC bg n (List.replicate n false)]):=λw hi=>by
 refine Zfn func76 ntmps76 hi ?_;refine om ?_;refine Z_9 ?_;refine cy rfl (bY) (Z_8 ?_);refine ZcM ([dD bp B ow pr]) (λw hi hin=>Ki bp B ow pr hl o n ho hn h1 hs hb w hin) ?_;refine Z_9 ?_;refine kv ?_;refine Z_3 ?_;refine uf ?_;refine ZE 2 ?_;refine ZE 4 ?_;refine kW 3 5 Zk ?_ ?_
 .refine gX rfl rfl (mS (bytes:=8) (n:=n) rfl rfl rfl rfl rfl rfl rfl Wq1 Wq9) ZJ rfl ?_;rintro _ _ ⟨b39,rfl,rfl⟩;refine kQ ?_;refine gX rfl rfl (mS (bytes:=1) (n:=n) rfl rfl rfl rfl rfl rfl rfl Wq1 Wq9) ZJ rfl ?_;rintro _ _ ⟨b41,rfl,rfl⟩;refine ZE 6 ?_;refine ic ?_;refine Ll ?_;rintro _ _ ⟨b43,rfl,rfl⟩;refine ZE 8 ?_;refine dR ?_;refine Wq105 ?_;rintro k hk;refine Zw6 ?_ ?_<;>intro hc8
  .simp only[ac]at hc8;refine rc ?_;refine Wq74 ?_;rintro _ _ ⟨rfl,rfl⟩;rw[fQ,AK _ _ Wq1];refine jS ?_;refine qMM (k+1) ⟨by omega,by omega⟩
  simp only[aa]at hc8;obtain rfl:k=n:=by omega
  exact Wq396
 refine gX rfl rfl (mS (bytes:=1) (n:=n) rfl rfl rfl rfl rfl rfl rfl Wq1 Wq9) ZJ rfl ?_;rintro _ _ ⟨b41,rfl,rfl⟩;refine cW 3 Zk (gX rfl rfl (mS (bytes:=8) (n:=n) rfl rfl rfl rfl rfl rfl rfl Wq1 Wq9) ZJ rfl ?_);rintro _ _ ⟨b39,rfl,rfl⟩;refine ZE 6 ?_;refine ic ?_;refine Ll ?_;rintro _ _ ⟨b43,rfl,rfl⟩;refine ZE 8 ?_;refine dR ?_;refine Wq105 ?_;rintro k hk;refine Zw6 ?_ ?_<;>intro hc8
 .simp only[ac]at hc8;refine rc ?_;refine Wq74 ?_;rintro _ _ ⟨rfl,rfl⟩;rw[fQ,AK _ _ Wq1];refine jS ?_;refine qMM (k+1) ⟨by omega,by omega⟩
 simp only[aa]at hc8;obtain rfl:k=n:=by omega
 exact Wq396
structure eB where
 bp:Nat
 bt:Nat
 bf:Nat
 bg:Nat
 bm:Nat
 o:Nat
 n:Nat
 gw:List Int
 gB:List Int
 gp:List Int
def eB.oth(L:eB)(f:Nat):Bool:=match L.gw[f]? with|some x=>x != -1&&x !=(L.o:Int)|none=>false
structure Mem where
 data:List Int
 Wj:List Bool
structure EM where
 B:List Int
 ow:List Int
 pr:List Int
 fr:List Int
 gd:List Bool
structure ef(L:eB)(M:Mem)(k:EM):Prop where
 pl:du k.B k.ow k.pr
 o4:L.o<4
 n1:1<=L.n
 n64:L.n<=64
 fr:k.fr.length=L.n
 gd:k.gd.length=L.n
 dl:M.data.length=L.n*64
 tl:M.Wj.length=64
 db:u8s M.data
 Wt:∀p,p<L.n->(k.fr[p]? =some (-1)/\∀j,j<64->M.data[p*64+j]? =some 0)\/(∃f:Nat,k.fr[p]? =some (f:Int)/\16<=f/\f<256/\k.ow[f]? =some (L.o:Int)/\∀j,j<64->k.B[f*64+j]? =M.data[p*64+j]?)
 inj:∀p q f:Nat,k.fr[p]? =some (f:Int)->k.fr[q]? =some (f:Int)->p=q
 held:∀f:Nat,f<256->(L.oth f=false/\k.ow[f]? =some (-1))\/(L.oth f=false/\k.ow[f]? =some (L.o:Int)/\∃p:Nat,k.fr[p]? =some (f:Int))\/(L.oth f=true/\k.ow[f]? =L.gw[f]? /\∀j,j<64->k.B[f*64+j]? =L.gB[f*64+j]?)
 prom:k.pr[L.o]? =some (L.n:Int)
 prs:k.pr=L.gp
 cap:L.n<=((List.range' 16 240).filter (λf=> !L.oth f)).length
def Mem.put(M:Mem)(a:Nat)(b:Int):Mem:=⟨M.data.set a b,M.Wj.set (a/64) true⟩
def Mem.calm(M:Mem):Mem:=⟨M.data,List.replicate 64 false⟩
theorem nL:∀(n:Nat) (l:List Nat),l.Nodup->(∀x,x∈l->x<n)->l.length<=n
 |0,l,_,h=>by
  cases l with
  |nil=>simp
  |cons x l=>have:=h x cP;omega
 |n+1,l,hn,h=>by
  by_cases hm:n∈l
  .have h1:=nL n (l.erase n) (hn.erase n) (λx hx=>by
    grind)
   grind
  have h1:=nL n l hn (λx hx=>by
   grind)
  omega
section
variable {L:eB} {M:Mem} {k:EM}
theorem idx_of{l:Li}{f:Int}(h:f∈l):l[l.idxOf f]? =some f:=by
 grind
theorem OL{l:Li}:∀{fs:List Nat},fs.Nodup->(∀f,f∈fs->((f:Nat):Int)∈l)->(fs.map λf:Nat=>l.idxOf (f:Int)).Nodup
 :=by intro y1 y2;induction y2<;>grind [idx_of]
theorem ef.few(h:ef L M k){fs:List Nat}(hnd:fs.Nodup)(hmem:∀f,f∈fs->((f:Nat):Int)∈k.fr):fs.length<=L.n/\∀p:Nat,k.fr[p]? =some (-1)->fs.length<L.n:=by
 have h1:=OL hnd hmem;have h3:∀x,x∈fs.map (λf:Nat=>k.fr.idxOf (f:Int))->x<L.n:=λx hx=>by
  grind [h.fr]
 refine⟨by have:=nL L.n _ h1 h3;grind,λp hp=>?_⟩;have hpl:p<L.n:=by have:=(ar.1 hp).1;rw[h.fr]at this;exact this
 have h2:=nL L.n (p::fs.map λf:Nat=>k.fr.idxOf (f:Int)) (List.nodup_cons.2 ⟨λhm=>by
  grind,h1⟩) (λx hx=>by
  grind)
 grind
theorem ef.XH(h:ef L M k):(cQ k.ow L.o 256).length<=L.n/\∀p:Nat,k.fr[p]? =some (-1)->(cQ k.ow L.o 256).length<L.n:=by
 unfold cQ;rw[ax];refine h.few (List.filter_sublist.nodup List.nodup_range) (λf hf=>?_);rw[List.mem_filter,List.mem_range]at hf;have e:=eq_of_beq hf.2;rcases h.held f hf.1 with⟨-,h1⟩|⟨-, -,q,hq⟩|⟨h1,h2, -⟩
 .grind
 .grind
 grind [eB.oth]
theorem ef.heldLt(h:ef L M k){p:Nat}(hp:k.fr[p]? =some (-1)):(cQ k.ow L.o 256).length<L.n:=h.XH.2 p hp
theorem ef.free(h:ef L M k){p:Nat}(hp:k.fr[p]? =some (-1)):∃f,16<=f/\f<256/\k.ow[f]? =some (-1):=by
 apply Classical.byContradiction;intro hno;have h1:=(h.few (fs:=(List.range' 16 240).filter (λf=> !L.oth f)) (List.filter_sublist.nodup List.nodup_range') (λf hf=>by
  rw[List.mem_filter,List.mem_range'_1]at hf;rcases h.held f (by omega)with⟨-,h1⟩|⟨-, -,q,hq⟩|⟨h1, -⟩
  ·grind
  ·grind
  grind)).2 p hp
 grind [h.cap]
theorem ef.putF(h:ef L M k){p j f:Nat}{b:Int}(hj:j<64)(hb:0<=b/\b<=255)(hf:k.fr[p]? =some (f:Int)):ef L (M.put (p*64+j) b) {k with B:=k.B.set (f*64+j) b}:=by
 have hpl:p<L.n:=by have:=(ar.1 hf).1;rw[h.fr]at this;exact this
 have hBl:=h.pl.b;have hf256:f<256:=by
  rcases h.Wt p hpl with⟨h1,_⟩|⟨f',h1,h2,h3,_⟩
  .grind
  grind
 refine⟨⟨by grind,h.pl.ow,h.pl.pr⟩,h.o4,h.n1,h.n64,h.fr,h.gd,by show(M.data.set _ _).length=_;grind [h.dl],by show(M.Wj.set _ _).length=_;grind [h.tl],?_,?_,h.inj,?_,h.prom,h.prs,h.cap⟩
 .intro x hx;rcases List.mem_or_eq_of_mem_set hx with h1|h1
  .exact h.db x h1
  omega
 .intro q hq;show(k.fr[q]? =some (-1)/\∀i,i<64->(M.data.set (p*64+j) b)[q*64+i]? =some 0)\/(∃g:Nat,k.fr[q]? =some (g:Int)/\16<=g/\g<256/\k.ow[g]? =some (L.o:Int)/\∀i,i<64->(k.B.set (f*64+j) b)[g*64+i]? =(M.data.set (p*64+j) b)[q*64+i]?);rcases h.Wt q hq with⟨h1,h2⟩|⟨g,h1,h2,h3,h4,h5⟩
  .grind
  right;refine⟨g,h1,h2,h3,h4,λi hi=>?_⟩;by_cases hqp:q=p
  .grind
  have hgf:g≠f:=by
   rintro rfl;exact hqp (h.inj q p g h1 hf)
  grind
 intro g hg;show _\/_\/(_/\_/\∀i,i<64->(k.B.set (f*64+j) b)[g*64+i]? =_);rcases h.held g hg with h1|h1|⟨h1,h2,h3⟩
 .grind
 .grind
 refine .inr (.inr ⟨h1,h2,λi hi=>?_⟩);have hgf:g≠f:=by
  rintro rfl;rcases h.Wt p hpl with⟨h4,_⟩|⟨f',h4,_,_,h5,_⟩
  .grind
  grind [eB.oth]
 grind
theorem ef.map(h:ef L M k){p f:Nat}(hp:p<L.n)(hf:k.fr[p]? =some (-1))(h16:16<=f)(h256:f<256)(hw:k.ow[f]? =some (-1)):ef L M {k with B:=eJ k.B f,ow:=k.ow.set f L.o,fr:=k.fr.set p f}:=by
 have hBl:=h.pl.b;have howl:=h.pl.ow;have hfl:=h.fr;have hnof:∀q:Nat,k.fr[q]? ≠some (f:Int):=λq hq=>by
  have hql:q<L.n:=by have:=(ar.1 hq).1;rw[h.fr]at this;exact this
  rcases h.Wt q hql with⟨h1,_⟩|⟨g,h1,_,_,h4,_⟩
  .grind
  grind
 have hz:∀j,j<64->M.data[p*64+j]? =some 0:=by
  rcases h.Wt p hp with⟨_,h2⟩|⟨g,h1,_⟩
  .exact h2
  grind
 refine⟨⟨zN hBl h256,by grind,h.pl.pr⟩,h.o4,h.n1,h.n64,by grind,h.gd,h.dl,h.tl,h.db,?_,?_,?_,h.prom,h.prs,h.cap⟩
 .intro q hq;show((k.fr.set p (f:Int))[q]? =some (-1)/\∀i,i<64->M.data[q*64+i]? =some 0)\/(∃g:Nat,(k.fr.set p (f:Int))[q]? =some (g:Int)/\16<=g/\g<256/\(k.ow.set f (L.o:Int))[g]? =some (L.o:Int)/\∀i,i<64->(eJ k.B f)[g*64+i]? =M.data[q*64+i]?);by_cases hqp:q=p
  .grind [Ch]
  rw[List.getElem?_set_ne Wq1];rcases h.Wt q hq with h1|⟨g,h1,h2,h3,h4,h5⟩
  .grind
  grind [p5]
 .intro a b g ha hb;show a=b
  change (k.fr.set p (f:Int))[a]? =_ at ha
  change (k.fr.set p (f:Int))[b]? =_ at hb
  by_cases hap:a=p
  .grind
  by_cases hbp:b=p
  .grind
  rw[List.getElem?_set_ne Wq1]at ha hb;exact h.inj a b g ha hb
 intro g hg;show(_/\(k.ow.set f (L.o:Int))[g]? =some (-1))\/(_/\(k.ow.set f (L.o:Int))[g]? =some (L.o:Int)/\∃q:Nat,(k.fr.set p (f:Int))[q]? =some (g:Int))\/(_/\(k.ow.set f (L.o:Int))[g]? =_/\∀i,i<64->(eJ k.B f)[g*64+i]? =_);have hhe:=h.held g hg;by_cases hgf:g=f
 .subst hgf;right;left;refine⟨?_,by grind,p,by grind⟩
  grind [eB.oth]
 rw[List.getElem?_set_ne Wq1];rcases hhe with h1|⟨h0,h1,q,hq⟩|⟨h1,h2,h3⟩
 .grind
 .right;left;refine⟨h0,h1,q,?_⟩
  grind
 grind [p5]
theorem ef.put0(h:ef L M k){p j:Nat}(hj:j<64)(hp:p<L.n)(hf:k.fr[p]? =some (-1)):ef L (M.put (p*64+j) 0) k:=by
 have hz:M.data[p*64+j]? =some 0:=by
  rcases h.Wt p hp with⟨_,h2⟩|⟨g,h1,_⟩
  .grind
  grind
 have e:M.data.set (p*64+j) 0=M.data:=by
  apply List.ext_getElem?;intro i;rw[List.getElem?_set];split
  .grind
  rfl
 unfold Mem.put;rw[e];exact⟨h.pl,h.o4,h.n1,h.n64,h.fr,h.gd,h.dl,by grind [h.tl],h.db,h.Wt,h.inj,h.held,h.prom,h.prs,h.cap⟩
theorem ef.calm(h:ef L M k):ef L M.calm k:=⟨h.pl,h.o4,h.n1,h.n64,h.fr,h.gd,h.dl,aI,h.db,h.Wt,h.inj,h.held,h.prom,h.prs,h.cap⟩
end
def Mem.new(n:Nat):Mem:=⟨List.replicate (n*64) 0,List.replicate 64 false⟩
theorem ef.new{L:eB}(ho:L.o<4)(h1:1<=L.n)(h64:L.n<=64){pr:Li}(hl:du L.gB L.gw pr)(hg:L.gp=pr.set L.o L.n)(hno:∀x,x∈L.gw->x≠(L.o:Int))(hc:L.n<=((List.range' 16 240).filter (λf=> !L.oth f)).length):
  ef L (Mem.new L.n) ⟨L.gB,L.gw,L.gp,List.replicate L.n (-1),List.replicate L.n false⟩:=by
 refine⟨⟨hl.b,hl.ow,by grind [hl.pr]⟩,ho,h1,h64,aI,aI,aI,aI,?_,?_,?_,?_,?_,rfl,hc⟩
 .intro x hx;have:=List.eq_of_mem_replicate hx;omega
 .intro p hp;left;refine⟨by grind,λj hj=>?_⟩;show(List.replicate (L.n*64) (0:Int))[p*64+j]? =_
  grind
 .grind
 .grind [hl.ow,eB.oth]
 grind [hl.pr]
variable{L:eB}
theorem Tk(h:n<=((List.range' 16 240).filter (λf=>L.gw[f]? ==some (-1))).length):n<=((List.range' 16 240).filter (λf=> !L.oth f)).length:=
 aK h (List.Sublist.length_le (by
  rw[show(List.range' 16 240).filter (λf=>L.gw[f]? ==some (-1))=((List.range' 16 240).filter (λf=> !L.oth f)).filter (λf=>L.gw[f]? ==some (-1)) by
   rw[List.filter_filter]
   grind [eB.oth]]
  exact List.filter_sublist))
def fh(L:eB)(tu:List Bool):List Value:= .p L.bp:: .p L.bt::(jQ tu++[.bool false])
abbrev sZ(L:eB)(tu:List Bool):bJ:=row L.bm (fh L tu) 190
variable{tu:List Bool}
theorem memCells_tu(h:tu[j]? =some b):(fh L tu)[2+j]? =some (.bool b):=by
 grind [fh,kO,Jc]
theorem v7(h:tu.length=64):(fh L tu)[66]? =some (.bool false):=by
 grind [fh,kO]
theorem nN(h:tu.length=64):(fh L tu).length=67:=by simp[fh,kO,h]
theorem nM(hj:j<tu.length)(b:Bool):(fh L tu).set (2+j) (.bool b)=fh L (tu.set j b):=by
 grind [fh,kO,Ep]
theorem Dt:((fh L tu).drop 2).take (jQ tu).length=jQ tu:=by
 unfold fh;simp
theorem Bi(h:tu.length=64):(fh L tu).take 2++List.replicate 64 (Value.bool false)++(fh L tu).drop (2+64)=fh L (List.replicate 64 false):=by
 grind [fh,jQ,kO,Hq]
def FR(L:eB)(tu:List Bool)(k:EM):List bJ:=[dD L.bp k.B k.ow k.pr,jX L.bt L.bp L.o L.bf L.bg L.n,frC L.bf L.n k.fr,gdC L.bg L.n k.gd,sZ L tu]
abbrev fw(L:eB)(M:Mem):bJ:=exC [L.bp,L.bt,L.bf,L.bg,L.bm] (FR L M.Wj) Zrf (ef L M)
theorem qD{M:Mem}{w:World}(h:(fw L M).ok w):∃k,ef L M k/\(dD L.bp k.B k.ow k.pr).ok w/\(jX L.bt L.bp L.o L.bf L.bg L.n).ok w/\(frC L.bf L.n k.fr).ok w/\(sZ L M.Wj).ok w:=by
 obtain⟨k,h1,h2⟩:=exC_ok h;exact⟨k,h1,h2 _ (.head _ _),h2 _ (.tail _ (.head _ _)),h2 _ (.tail _ (.tail _ (.head _ _))),h2 _ (.tail _ (.tail _ (.tail _ (.tail _ (.head _ _)))))⟩
theorem AX(bt bp o bf bg n:Nat)(w:World)(h:(jX bt bp o bf bg n).ok w):CW prog 130 [.p bt] w (.i n):=by
 refine Zfs func130 ntmps130 ?_;refine uh ?_;exact xy
theorem Vq(bt bp o bf bg n p:Nat)(w:World)(h:(jX bt bp o bf bg n).ok w):CW prog 154 [.p bt,.i p] w (.bool (decide (p<n))):=by
 refine Zfs func154 ntmps154 ?_;refine jl ?_;refine gQ (bS rfl rfl) (bM Zrf (cA rfl)) (dr la rfl) rfl (sE ?_);rw[aE (show(0:Int)<=p by omega),show decide ((p:Int)<n)=decide (p<n)from decide_eq_decide.2 Wq1];exact gr
def wI(f:Int):Value:=bif f== -1 then .tuple #[.i 0,.bool false]else .tuple #[.i f,.bool true]
theorem lN(bt bp o bf bg n p:Nat)(fr:Li)(f:Int)(hp:p<n)(hf:fr[p]? =some f)(w:World)(h:(jX bt bp o bf bg n).ok w)(h2:(frC bf n fr).ok w):
  CW prog 133 [.p bt,.i p] w (wI f):=by
 have hrd:=dM h2;refine Zfs func133 ntmps133 ?_;refine gq ?_;refine ZSe (λw hi=>Vq bt bp o bf bg n p w (bJ.old h hi)) ?_;rw[aE hp];refine Z_5 ?_;refine gQ (bQ rfl rfl) (bM Zrf (cA rfl)) (dr la rfl) rfl (ZB ?_);refine Zyn rfl rfl (cC (j:=p) rfl Zrf (cA rfl) (cA rfl) Wq2 Wq2) ?_;refine gQ (bQ rfl rfl) (bM Zrf (cA rfl)) (dJ hrd (cK hf)) rfl (Z_4 ?_);refine ZW ?_ ?_<;>intro hc1
 .have hc:(f== -1)=true:=hc1;simp only[wI,hc,ai];refine Z_8 ?_;exact lc
 have hc:(f== -1)=false:=hc1;simp only[wI,hc,ah];refine Z_7 ?_;refine Ql ?_;refine ZA ?_;refine Zy (cC (j:=p) rfl Zrf (Zv rfl) (Zv rfl) Wq2 Wq2) ?_;refine dQ (bM Zrf Zv0) (dJ hrd (cK hf)) rfl (Z_5 ?_);exact lc
theorem tmap_ok(bt bp o bf bg n p:Nat)(B ow pr fr:Li)(hl:du B ow pr)(ho:o<4)(hn:pr[o]? =some (n:Int))(hlt:(cQ ow o 256).length<n)(f0:Nat)(h16:16<=f0)(h256:f0<256)(hf0:ow[f0]? =some (-1))(hp:p<n)(hf:fr[p]? =some (-1)):CI prog 134 [.p bt,.i p] [jX bt bp o bf bg n,frC bf n fr,dD bp B ow pr] (λv cs=>∃f:Nat,16<=f/\f<256/\ow[f]? =some (-1)/\v= .tuple #[.i f,.i 0]/\cs=[dD bp (eJ B f) (ow.set f o) pr,jX bt bp o bf bg n,frC bf n (fr.set p f)]):=λw hi=>by
 refine Zfn func134 ntmps134 hi ?_;refine gq ?_;refine ZSe (λw hi=>Vq bt bp o bf bg n p w (hi.get Zh)) ?_;rw[aE hp];refine iX ?_;refine Z_7 ?_;refine ZSe (λw hi=>lN bt bp o bf bg n p fr (-1) hp hf w (hi.get Zh) (hi.get Zh)) ?_;refine fb ?_;refine kv ?_;refine Z_3 ?_;refine bU (Zdn [8]) Zk (uj ?_);refine Ca ?_;refine ZFe 6 1 ?_;refine ZG 7 ?_;refine ig ?_;refine tD ([dD bp B ow pr]) (λw hi hin=>take_ok bp B ow pr hl o ho n hn Wq1 f0 h16 h256 hf0 w hin) ?_;rintro _ _ ⟨f,hf1,hf2,hf3,rfl,rfl⟩;refine un ?_;refine ZE 12 ?_;refine ZE 13 ?_;refine dR ?_;refine Z_8 ?_;refine pX ?_;refine Z_7 ?_;refine Zy (cw (j:=p) (sz:=1) (r:=p) rfl Zrf (Zv rfl) (Zv rfl) Wq2 Wq2 Wq1) ?_;refine Qj ?_;rintro _ _ ⟨rfl,rfl⟩;rw[fQ];refine gq ?_;exact AH (cs':=[row _ _ _,row _ _ _,slv _ _ _ _ _ _]) (.inl rfl) Zu rfl rfl rfl ⟨f,hf1,hf2,hf3,rfl,rfl⟩
def gB(d:Li)(a:Nat):Int:=d.getD a 0
variable{d:Li}{a:Nat}
theorem Ti(h:a<d.length):d[a]? =some (gB d a):=by simp[gB,h]
theorem kJ(h:u8s d)(a:Nat):0<=gB d a/\gB d a<=255:=by
 unfold gB;by_cases hl:a<d.length
 .rw[List.getD_eq_getElem?_getD,ae hl];exact h _ (List.getElem_mem hl)
 grind
def tE(d:Li)(a:Nat):Nat->Int
 |0=>0
 |k+1=>tE d a k*256+gB d (a+(3 - k))
def u6(d:Li)(a:Nat):Int:=gB d a+256*gB d (a+1)+65536*gB d (a+2)+16777216*gB d (a+3)
theorem JJ(d:Li)(a:Nat):tE d a 4=u6 d a:=by
 simp[tE,u6];omega
theorem Cn{d:Li}(h:u8s d)(a:Nat):∀k,0<=tE d a k/\tE d a k<256^k
 |0=>by simp[tE]
 |k+1=>by
  have h1:=Cn h a k;have h2:=kJ h (a+(3 - k))
  grind [tE]
theorem yv(h:u8s d)(a:Nat):u32 (u6 d a):=by
 have h1:=kJ h a;have h2:=kJ h (a+1);have h3:=kJ h (a+2);have h4:=kJ h (a+3);unfold u6;exact⟨by omega,by omega⟩
theorem JI(h:u8s d)(a:Nat){k:Nat}(hk:k<4):bits .or .u32 (IntKind.u32.wrap (tE d a k*2^(min (8:Int).toNat IntKind.u32.bits))) (gB d (a+(3 - k)))=tE d a (k+1):=by
 have h1:=Cn h a k;have h2:=kJ h (a+(3 - k));simp only[tE];generalize tE d a k=v at h1;have hv:0<=v/\v<16777216:=by
  obtain rfl|rfl|rfl|rfl:k=0\/k=1\/k=2\/k=3:=by omega
  all_goals (simp at h1;omega)
 have e1:(2:Int)^(min (8:Int).toNat IntKind.u32.bits)=256:=rfl;rw[e1,u32_wrap_id _ Wq1 Wq1];exact bits_join .u32 32 bX wraps_u32 8 (v*256) _ Wq1 Wq1 Wq1 Wq1 Wq1 Wq1
def vc(v:Int)(k:Nat):Int:=v/256^k%256
theorem p8(v:Int)(k:Nat):0<=vc v k/\vc v k<=255:=by unfold vc;omega
theorem Cm(v:Int){k:Nat}(hk:k<4):IntKind.u8.wrap (v.fdiv (2^(min (IntKind.u32.wrap (8*(k:Int))).toNat IntKind.u32.bits)))=vc v k:=by
 have e:∀n:Nat,v.fdiv (2^n)=v/2^n:=λn=>Int.fdiv_eq_ediv_of_nonneg v bY
 rw[e,IntKind.wrap_u8];unfold vc;obtain rfl|rfl|rfl|rfl:k=0\/k=1\/k=2\/k=3:=by omega
 all_goals rfl
def Mem.Xg(M:Mem)(a:Nat)(v:Int):Nat->Mem
 |0=>M
 |k+1=>(Mem.Xg M a v k).put (a+k) (vc v k)
def Mem.WW(M:Mem)(a:Nat)(v:Int):Mem:=M.Xg a v 4
def Mem.fill(M:Mem)(a:Nat)(l:Li):Nat->Mem
 |0=>M
 |k+1=>(Mem.fill M a l k).put (a+k) (gB l k)
theorem oD(L:eB)(M:Mem)(w:World)(h:(fw L M).ok w):CW prog 108 [.p L.bm] w (.w (L.n*64:Nat)):=by
 obtain⟨k,hr,h1,h2,h3,h4⟩:=qD h;have n64:=hr.n64;refine Zfs func108 ntmps108 ?_;refine uh ?_;refine ZSe (λw hi=>AX L.bt L.bp L.o L.bf L.bg L.n w (bJ.old h2 hi)) ?_;refine oq ?_;refine Zy (jF (Zv rfl) (Zv rfl) (show IntKind.u32.wrap ((IntKind.u32.wrap (L.n:Int))*64)=((L.n*64:Nat):Int) by rw[u32_wrap_id (L.n:Int) Wq1 Wq1,u32_wrap_id _ Wq1 Wq1];omega)) ?_;exact o7
theorem z8(a:Nat)(ha:a<=4294967295)(w:World):CW prog 132 [.w a] w (.tuple #[.i (a/64:Nat),.i (a%64:Nat)]):=by
 refine Zfs func132 ntmps132 ?_;refine Z_9 ?_;refine Wq465 ?_;refine ZA ?_;refine Zy (jm (Zv rfl) (Zv rfl) Wq1 (show _=((a%64:Nat):Int)from by grind)) ?_;refine lD ?_;refine Z_5 ?_;exact lc
theorem Ho(L:eB)(M:Mem)(a n:Nat)(ha:a<=4294967295)(hn:n<=1000)(w:World)(h:(fw L M).ok w):CW prog 131 [.p L.bm,.w a,.i n] w (.bool (decide (a+n<=L.n*64))):=by
 obtain⟨k,hr,_⟩:=qD h;have n64:=hr.n64;refine Zfs func131 ntmps131 ?_;refine Z_8 ?_;refine xC ?_;refine ZA ?_;refine xC ?_;refine Zy (eK (Zv rfl) (Zv rfl) (IntWalk.u64_in _ ⟨by omega,by omega⟩)) ?_;refine ZA ?_;refine ZSe (λw hi=>oD L M w (bJ.old h hi)) ?_;refine xC ?_;refine Z_5 ?_;refine Zra ?_;rw[show decide ((a:Int)+n<=((L.n*64:Nat):Int))=decide (a+n<=L.n*64)from decide_eq_decide.2 Wq1];exact gr
theorem pE(f:Nat):wI (f:Int)= .tuple #[.i f,.bool true]:=by
 grind [wI]
theorem AF(L:eB)(M:Mem)(a:Nat)(ha:a<L.n*64)(w:World)(h:(fw L M).ok w):CW prog 121 [.p L.bm,.w a] w (.int .u8 (gB M.data a)):=by
 obtain⟨k,hr,h1,h2,h3,h4⟩:=qD h;have n64:=hr.n64;have hp:a/64<L.n:=by omega
 have hj:a%64<64:=by omega
 have hdl:=hr.dl;have hda:M.data[a/64*64+a%64]? =some (gB M.data a):=by rw[show a/64*64+a%64=a by omega];exact Ti Wq1
 rcases hr.Wt (a/64) hp with⟨f1,f2⟩|⟨f,f1,f2,f3,f4,f5⟩
 .have hz:gB M.data a=0:=by have:=f2 (a%64) hj;rw[hda]at this;exact ay this
  rw[hz];refine Zfs func121 ntmps121 ?_;refine Z_8 ?_;refine ZSe (λw hi=>z8 a Wq1 w) ?_;refine fb ?_;refine Ql ?_;refine ZA ?_;refine ZSe (λw hi=>lN L.bt L.bp L.o L.bf L.bg L.n (a/64) k.fr (-1) hp f1 w (bJ.old h2 hi) (bJ.old h3 hi)) ?_;refine jl ?_;refine pX ?_;exact Ez
 have hb:k.B[f*64+a%64]? =some (gB M.data a):=by rw[f5 _ hj,hda]
 refine Zfs func121 ntmps121 ?_;refine Z_8 ?_;refine ZSe (λw hi=>z8 a Wq1 w) ?_;refine fb ?_;refine Ql ?_;refine ZA ?_;refine ZSe (λw hi=>lN L.bt L.bp L.o L.bf L.bg L.n (a/64) k.fr f hp f1 w (bJ.old h2 hi) (bJ.old h3 hi)) ?_;rw[pE];refine sG ?_;refine Z_7 ?_;refine Ql ?_;refine Z_2 ?_;refine ZSe (λw hi=>R8 L.bp k.B k.ow k.pr hr.pl f (a%64) L.o _ f2 f3 f4 Wq1 hj hb w (bJ.old h1 hi)) ?_;refine jl ?_;exact ru
theorem rput_in(L:eB)(M:Mem)(a:Nat)(ha:a<L.n*64)(b:Int)(hb:0<=b/\b<=255)(w:World)(k:EM)(hr:ef L M k)(hi:Inv w (bK (FR L M.Wj k)) (FR L M.Wj k) w):
  Ctr prog 109 [.p L.bm,.w a,.int .u8 b] w (FR L M.Wj k) (λv cs=>v= .bool true/\∃k',ef L (M.put a b) k'/\cs=FR L (M.put a b).Wj k'):=by
 have n64:=hr.n64;have o4:=hr.o4;have hp:a/64<L.n:=by omega
 have hj:a%64<64:=by omega
 have hdl:=hr.dl;have htl:=hr.tl;have ea:a/64*64+a%64=a:=by omega
 obtain⟨hb0,hb1⟩:=hb;have his:∀w0 S w,Inv w0 S (FR L M.Wj k) w->(fw L M).ok w:=λw0 S w hi=>(hi.WT (rest:=[]) (bs:=[L.bp,L.bt,L.bf,L.bg,L.bm]) (F:=FR L M.Wj) (hb:=λ_=>rfl) (p:=ef L M) k hr).ok _ (List.mem_cons_self ..)
 rcases hr.Wt (a/64) hp with⟨f1,f2⟩|⟨f,f1,f2,f3,f4,f5⟩
 .by_cases hb0':b=0
  .subst hb0';have hfin:=hr.put0 hj hp f1;rw[ea]at hfin;refine Zfn func109 ntmps109 hi ?_;unfold FR at his|-;refine Wq416 ?_;refine kv ?_;refine Z_8 ?_;refine Wq200 ?_;rintro _ _ ⟨rfl,rfl⟩;rw[nM Wq1];refine jl ?_;refine io (bQ rfl rfl) rfl rfl (Zy (y_or (q:=false) (Zv rfl) ⟨_,rfl,λ_ e=>by simp at e⟩) ?_);refine Z_4 ?_;refine Wq500 ?_;exact⟨rfl,k,hfin,rfl⟩
  obtain⟨f0,g1,g2,g3⟩:=hr.free f1;refine Zfn func109 ntmps109 hi ?_;unfold FR at his|-;refine Wq416 ?_;refine cn rfl (bY) (fH ?_);refine ZFa 66 ?_;refine dQ (bM Zrf Zv0) (cB (o:=66) Zh (v7 htl)) rfl (pN ?_);refine fH ?_;refine dy ([jX L.bt L.bp L.o L.bf L.bg L.n,frC L.bf L.n k.fr,dD L.bp k.B k.ow k.pr]) (λw hi hin=>tmap_ok L.bt L.bp L.o L.bf L.bg L.n (a/64) k.B k.ow k.pr k.fr hr.pl o4 hr.prom (hr.heldLt f1) f0 g1 g2 g3 hp f1 w hin) ?_;rintro _ _ ⟨f,m1,m2,m3,rfl,rfl⟩;have hmap:=hr.map hp f1 m1 m2 m3;have hfin:=hmap.putF (j:=a%64) (b:=b) (f:=f) hj ⟨hb0,hb1⟩ (show(k.fr.set (a/64) (f:Int))[a/64]? =_ by grind);rw[ea]at hfin;have hpl':=hmap.pl;refine ng ?_;refine kv ?_;refine fb ?_;refine Wq200 ?_;rintro _ _ ⟨rfl,rfl⟩;rw[nM Wq1];refine jl ?_;refine fF (bQ rfl rfl) rfl (dN ([dD L.bp (eJ k.B f) (k.ow.set f L.o) k.pr]) rfl (λ_ _=>rfl) Zi (λw hi hin=>Nl L.bp (eJ k.B f) (k.ow.set f L.o) k.pr hpl' f (a%64) L.o b m1 m2 (show(k.ow.set f (L.o:Int))[f]? =some (L.o:Int) by grind) Wq1 hj w hin)) rfl ?_;rintro _ _ ⟨_,⟨rfl,rfl⟩,rfl⟩;refine Z_5 ?_;refine bO [dD L.bp ((eJ k.B f).set (f*64+a%64) b) (k.ow.set f L.o) k.pr,jX L.bt L.bp L.o L.bf L.bg L.n,frC L.bf L.n (k.fr.set (a/64) f),gdC L.bg L.n k.gd,sZ L (M.Wj.set (a/64) true)] Zj (Wq500 ?_);exact⟨rfl,_,hfin,rfl⟩
 have hfin:=hr.putF (j:=a%64) (b:=b) hj ⟨hb0,hb1⟩ f1;rw[ea]at hfin;refine Zfn func109 ntmps109 hi ?_;unfold FR at his|-;refine fH ?_;refine Wq181 ?_;refine jl ?_;refine ZSe (λw hi=>lN L.bt L.bp L.o L.bf L.bg L.n (a/64) k.fr f hp f1 w (hi.get Zh) (hi.get Zh)) ?_;rw[pE];refine EU ?_;refine kv ?_;refine Z_8 ?_;refine Wq200 ?_;rintro _ _ ⟨rfl,rfl⟩;rw[nM Wq1];refine jl ?_;refine fF (bQ rfl rfl) rfl (dN ([dD L.bp k.B k.ow k.pr]) rfl (λ_ _=>rfl) Zi (λw hi hin=>Nl L.bp k.B k.ow k.pr hr.pl f (a%64) L.o b f2 f3 f4 Wq1 hj w hin)) rfl ?_;rintro _ _ ⟨_,⟨rfl,rfl⟩,rfl⟩;refine Z_5 ?_;refine bO [dD L.bp (k.B.set (f*64+a%64) b) k.ow k.pr,jX L.bt L.bp L.o L.bf L.bg L.n,frC L.bf L.n k.fr,gdC L.bg L.n k.gd,sZ L (M.Wj.set (a/64) true)] Zj (Wq500 ?_);exact⟨rfl,_,hfin,rfl⟩
def cpy(d:Li)(o n k:Nat):List Int:=(List.range k).map (λj=>gB d (o+j))++List.replicate (n - k) 0
theorem I5(d:Li)(o n:Nat):cpy d o n 0=List.replicate n 0:=by simp[cpy]
theorem PS(d:Li)(o:Nat){n k:Nat}(h:k<n):(cpy d o n k).set k (gB d (o+k))=cpy d o n (k+1):=by
 unfold cpy;rw[List.set_append_right _ _ cP,ax,List.length_range,Nat.sub_self,show n - k=(n - (k+1))+1 by omega,List.replicate_succ,List.set_cons_zero,List.range_succ,List.map_append,aq]
 rfl
theorem PU{o:Nat}(h:o+n<=d.length):cpy d o n n=(d.drop o).take n:=by
 unfold cpy;rw[Nat.sub_self,List.replicate_zero,aw];apply List.ext_getElem?
 grind [Ti]
def ip(tu:List Bool)(k:Nat):List Int:=((List.range k).filter (λf=>tu.getD f false)).map (λf:Nat=>(f:Int))
theorem yC(tu:List Bool)(k:Nat):ip tu (k+1)=ip tu k++(bif tu.getD k false then[(k:Int)]else[]):=by
 grind [ip,List.range_succ,Bool.false_eq_true]
theorem Q5(tu:List Bool)(k:Nat):(ip tu k).length<=k:=by
 grind [ip]
theorem La{l:List Bool}(h:j<l.length):(jQ l)[j]? =some (.bool (l.getD j false)):=by
 grind [Jc]
def Mem.init(n:Nat)(b:Li):Mem:=⟨b++List.replicate (n*64 - b.length) 0,List.replicate 64 false⟩
theorem AB(L:eB)(M:Mem)(a:Nat)(ha:a<L.n*64)(b:Int)(hb:0<=b/\b<=255):CI prog 109 [.p L.bm,.w a,.int .u8 b] [fw L M] (λv cs=>v= .bool true/\cs=[fw L (M.put a b)]):=λw hi=>
 ctr_E hi λk hr hi'=>rput_in L M a ha b hb w k hr hi'
theorem nc{M:Mem}{w:World}(h:(fw L M).ok w):1<=L.n/\L.n<=64/\M.data.length=L.n*64/\u8s M.data/\M.Wj.length=64:=by
 obtain⟨k,hr,_⟩:=qD h;exact⟨hr.n1,hr.n64,hr.dl,hr.db,hr.tl⟩
theorem RM(L:eB)(M:Mem)(a:Nat)(ha:a<L.n*64)(w:World)(h:(fw L M).ok w):CW prog 313 [.p L.bm,.w a] w (.tuple #[.int .u8 (gB M.data a),.bool true]):=by
 obtain⟨n1,n64,_⟩:=nc h;refine Zfs func313 ntmps313 ?_;refine gq ?_;refine ZSe (λw hi=>Ho L M a 1 Wq1 Wq1 w (bJ.old h hi)) ?_;rw[aE (show a+1<=L.n*64 by omega)];refine iX ?_;refine Z_6 ?_;refine ZSe (λw hi=>AF L M a ha w (bJ.old h hi)) ?_;refine Z_5 ?_;exact lc
def Jx(L:eB)(M:Mem)(a:Nat):Value:=bif decide (a+4<=L.n*64)then .tuple #[.w (u6 M.data a),.bool true]else .tuple #[.w 0,.bool false]
theorem Hg(L:eB)(M:Mem)(a:Nat)(ha:a<=4294967295)(w:World)(h:(fw L M).ok w):CW prog 284 [.p L.bm,.w a] w (Jx L M a):=by
 obtain⟨n1,n64,hdl,hdb,htl⟩:=nc h;refine Zfs func284 ntmps284 ?_;refine gq ?_;refine ZSe (λw hi=>Ho L M a 4 ha Wq1 w (bJ.old h hi)) ?_;refine Zw3 ?_ ?_<;>intro hc1
 .have hc:decide (a+4<=L.n*64)=false:=by simpa using hc1
  refine Z_8 ?_;refine mf ?_;unfold Jx;rw[hc];exact gr
 have hc:decide (a+4<=L.n*64)=true:=by simpa using hc1
 have hle:a+4<=L.n*64:=of_decide_eq_true hc;refine jl ?_;refine wLo (λi:Nat=>[(0,.p L.bm),(1,.w a),(6,.w (tE M.data a i)),(7,.w (4 - (i:Int)))]) (λ_=>[]) (λi=>i<=4) (λi=>4 - i) (0) Wq1 ?_;rintro i hik;refine Zw7 ?_ ?_<;>intro hc5
 .simp only[ac]at hc5;have hi4:i<4:=by omega
  have ha3:a+(3 - i)<L.n*64:=by omega
  refine Z_6 ?_;refine Lm ?_;refine Z_3 ?_;refine Zy (eK (Zv rfl) (Zv rfl) (u32_wrap_id _ Wq1 Wq1)) ?_;refine Zy (i5 (Zv rfl) (Zv rfl) (show IntKind.u32.wrap ((a:Int)+(4 - (i:Int)) - 1)=((a+(3 - i):Nat):Int) by rw[u32_wrap_id _ Wq1 Wq1];omega)) ?_;refine ZSe (λw hi=>AF L M (a+(3 - i)) ha3 w (bJ.old h hi)) ?_;have hg:=kJ hdb (a+(3 - i));refine Zy (cU rfl rfl (Zv rfl) QO) ?_;refine Zy (Ci Zv0 Zv0 (JI hdb a hi4)) ?_;refine Z_6 ?_;refine Zy (i5 (Zv rfl) (Zv rfl) (u32_wrap_id _ Wq1 Wq1)) ?_;refine Z_2 ?_;refine qMM (i+1) Wq1
 simp only[aa]at hc5;obtain rfl:i=4:=by omega
 refine ng ?_;refine mf ?_;unfold Jx;rw[hc,JJ];exact gr
theorem vM(L:eB)(M:Mem)(a:Nat)(v:Int)(ha:a+4<=L.n*64)(hv:u32 v):CI prog 249 [.p L.bm,.w a,.w v] [fw L M] (λv' cs=>v'= .bool true/\cs=[fw L (M.WW a v)]):=λw hi=>by
 obtain⟨n1,n64,hdl,hdb,htl⟩:=nc (hi.ok _ (List.mem_cons_self ..));refine Zfn func249 ntmps249 hi ?_;refine fH ?_;refine ZSe (λw hi=>Ho L M a 4 Wq1 Wq1 w (hi.get Zh)) ?_;rw[aE ha];refine iX ?_;refine jl ?_;refine wLo (λk:Nat=>[(0,.p L.bm),(1,.w a),(2,.w v),(7,.bool true),(13,.w (k:Int))]) (λk=>[fw L (M.Xg a v k)]) (λk=>k<=4) (λk=>4 - k) (0) Wq1 ?_;rintro k hk;refine Zw6 ?_ ?_<;>intro hc5
 .simp only[ac]at hc5;have hk4:k<4:=by omega
  refine jl ?_;refine Zy (eK (Zv rfl) (Zv rfl) (show IntKind.u32.wrap ((a:Int)+(k:Int))=((a+k:Nat):Int) by rw[u32_wrap_id _ Wq1 Wq1];omega)) ?_;refine Z_2 ?_;refine Zy (jF Zv0 Zv0 rfl) ?_;refine Zy (lJ (Zv rfl) (Zv rfl) (by rw[aG];omega) rfl) ?_;refine Zy (cU rfl rfl Zv0 (Cm v hk4)) ?_;refine ZcM ([fw L (M.Xg a v k)]) (λw hi hin=>AB L (M.Xg a v k) (a+k) Wq1 (vc v k) (p8 v k) w hin) ?_;refine Z_8 ?_;refine Zy (eK (Zv rfl) (Zv rfl) (u32_wrap_id _ Wq1 Wq1)) ?_;refine Z_2 ?_;refine qMM (k+1) Wq1
 simp only[aa]at hc5;obtain rfl:k=4:=by omega
 refine fb ?_;refine Zrb ([exC _ _ _ _]) ?_;exact gr
theorem AE(L:eB)(M:Mem)(p:Nat)(hp:p<L.n)(w:World)(h:(fw L M).ok w):Ctr prog 168 [.p L.bm,.i p] w [] (λv cs=>∃b,v= .tuple #[.slice (sA b) 64 64,.bool true]/\cs=[sl .u8 5 (sA b) 64 64 ((M.data.drop (p*64)).take 64)]):=by
 obtain⟨n1,n64,hdl,hdb,htl⟩:=nc h;obtain⟨k0,hr0,h1,h2,h3,h4⟩:=qD h;refine Zfs func168 ntmps168 ?_;refine Wq225 ?_;rintro _ _ ⟨_,⟨rfl,rfl⟩,rfl⟩;refine Z_4 ?_;refine cy rfl (bY) (Z_4 ?_);refine fo (mS (bytes:=1) (n:=64) rfl rfl rfl rfl rfl rfl rfl Wq1 Wq9) rfl ?_;rintro _ _ ⟨b19,rfl,rfl⟩;rw[rS,<-I5 M.data (p*64) 64];refine fb ?_;refine wLo (λk:Nat=>[(0,.p L.bm),(1,.i p),(6,.slice (sA b19) 64 64),(21,.i 64),(22,.i (k:Int))]) (λk=>[sl .u8 5 (sA b19) 64 64 (cpy M.data (p*64) 64 k)]) (λk=>k<=64) (λk=>64 - k) (0) Wq1 ?_;rintro k hk;refine Zw6 ?_ ?_<;>intro hc5
 .simp only[ac]at hc5;have hpk:p*64+k<L.n*64:=by omega
  refine oU ?_;refine Wq375 ?_;refine ZSe (λw hi=>AF L M (p*64+k) hpk w (bJ.old h hi)) ?_;refine Wq74 ?_;rintro _ _ ⟨rfl,rfl⟩;rw[fQ,PS _ _ Wq1];refine jS ?_;refine qMM (k+1) Wq1
 simp only[aa]at hc5;obtain rfl:k=64:=by omega
 rw[PU Wq1];refine Wq491 ?_;exact⟨b19,rfl,rfl⟩
theorem Fk(L:eB)(M:Mem)(p:Nat)(hp:p<L.n)(A:Oa)(c:Nat)(l:Li)(hl:l.length=64)(hb:u8s l)(w:World)(hi:Inv w (bK [fw L M]) [fw L M] w)(hrd:∀w',dc (bK [fw L M]) w w'->Rd w' .u8 A 64 c l):
  Ctr prog 317 [.p L.bm,.i p,.slice A 64 c] w [fw L M] (λv' cs=>v'= .bool true/\cs=[fw L (M.fill (p*64) l 64)]):=by
 obtain⟨n1,n64,hdl,hdb,htl⟩:=nc (hi.ok _ (List.mem_cons_self ..));have hrw:=hrd w (dc.refl _ _);obtain⟨ad,rfl⟩:=hrw.some_ Wq1;have hpg:∀w0 S cs w,Inv w0 S cs w->Has cs (fw L M)->Ctr prog 130 [.p L.bt] w [] (λv cs=>v= .i L.n/\cs=[]):=λw0 S cs w hi hc=>by
  obtain⟨k0,hr0,h1,h2,h3,h4⟩:=qD (hi.get hc);exact AX L.bt L.bp L.o L.bf L.bg L.n w h2
 have hcell:∀w,Inv w (bK [fw L M]) [fw L M] w->True:=λ_ _=>trivial
 refine Zfn func317 ntmps317 hi ?_;refine fH ?_;rw[aF (show¬(p:Int)<0 by omega)];refine Z_5 ?_;refine gQ (bQ rfl rfl) (bM Zrf (cA rfl)) (λw hi=>by obtain⟨k0,hr0,h1,h2,h3,h4⟩:=qD (hi.get (Zhc (fw L M)));exact dr (cs:=[]) h4 (show(fh L M.Wj)[1]? =some (.p L.bt)from rfl) w (Inv.start w)) rfl (fF (bQ rfl rfl) rfl (dh rfl (λ_ _=>rfl) (λw hi=>hpg _ _ _ w hi Zh)) rfl ?_);rintro _ _ ⟨_,⟨rfl,rfl⟩,rfl⟩;refine Z_9 ?_;refine cy rfl (bY) (rc ?_);refine wLo (λk:Nat=>[(0,.p L.bm),(1,.i p),(7,.bool true),(26,.slice (some ad) 64 c),(27,.i 64),(28,.i (k:Int))]) (λk=>[fw L (M.fill (p*64) l k)]) (λk=>k<=64) (λk=>64 - k) (0) Wq1 ?_;rintro k hk;refine Zw6 ?_ ?_<;>intro hc5
 .simp only[ac]at hc5;have hkl:k<l.length:=by omega
  have hbk:=kJ hb k;refine Z_7 ?_;refine Ex ?_;refine dQ (bM Zrf Zv0) (oG hrd (cK (Ti hkl))) rfl (Z_7 ?_);refine Wq375 ?_;refine ZA ?_;refine ZcM ([fw L (M.fill (p*64) l k)]) (λw hi hin=>AB L (M.fill (p*64) l k) (p*64+k) Wq1 (gB l k) hbk w hin) ?_;refine Z_8 ?_;refine Wq6 ?_;refine qMM (k+1) Wq1
 simp only[aa]at hc5;obtain rfl:k=64:=by omega
 refine fb ?_;refine Zrb ([exC _ _ _ _]) ?_;exact gr
theorem RC(L:eB)(M:Mem)(A:Oa)(c:Nat)(l:Li)(hl:l.length<=L.n*64)(hb:u8s l)(w:World)(hi:Inv w (bK [fw L M]) [fw L M] w)(hrd:∀w',dc (bK [fw L M]) w w'->Rd w' .u8 A l.length c l):
  Ctr prog 78 [.p L.bm,.slice A l.length c] w [fw L M] (λv' cs=>v'= .i 0/\cs=[fw L (M.fill 0 l l.length)]):=by
 obtain⟨n1,n64,hdl,hdb,htl⟩:=nc (hi.ok _ (List.mem_cons_self ..));have hrw:=hrd w (dc.refl _ _);refine Zfn func78 ntmps78 hi ?_;refine gq ?_;refine ZSe (λw hi=>oD L M w (hi.get Zh)) ?_;refine lD ?_;refine Z_3 ?_;refine cy rfl ((aF Wq1)) (gq ?_);refine wLo (λk:Nat=>[(0,.p L.bm),(13,.slice A l.length c),(14,.i l.length),(15,.i (k:Int))]) (λk=>[fw L (M.fill 0 l k)]) (λk=>k<=l.length) (λk=>l.length - k) (0) Wq1 ?_;rintro k hk;refine Zw6 ?_ ?_<;>intro hc4
 .simp only[ac]at hc4;have hkl:k<l.length:=by omega
  have hbk:=kJ hb k;obtain⟨ad,rfl⟩:=hrw.some_ Wq1;refine Z_7 ?_;refine Ex ?_;refine dQ (bM Zrf Zv0) (oG hrd (cK (Ti hkl))) rfl (Z_7 ?_);refine Zy (cU rfl rfl (Zv rfl) (show IntKind.u32.wrap (k:Int)=((0+k:Nat):Int) by rw[u32_wrap_id _ Wq1 Wq1];omega)) ?_;refine ZA ?_;refine ZcM ([fw L (M.fill 0 l k)]) (λw hi hin=>AB L (M.fill 0 l k) (0+k) Wq1 (gB l k) hbk w hin) ?_;refine jS ?_;refine qMM (k+1) Wq1
 simp only[aa]at hc4;obtain rfl:k=l.length:=by omega
 refine gq ?_;refine Zrb ([exC _ _ _ _]) ?_;exact gr
theorem rall_ok(L:eB)(M:Mem)(w:World)(h:(fw L M).ok w):Ctr prog 90 [.p L.bm] w [] (λv cs=>∃b,v= .slice (sA b) M.data.length M.data.length/\cs=[sl .u8 5 (sA b) M.data.length M.data.length M.data]):=by
 obtain⟨n1,n64,hdl,hdb,htl⟩:=nc h;rw[hdl];refine Zfs func90 ntmps90 ?_;refine Z_8 ?_;refine ZSe (λw hi=>oD L M w (bJ.old h hi)) ?_;refine fo (mS (bytes:=1) (n:=L.n*64) rfl rfl rfl rfl rfl rfl rfl Wq1 Wq9) rfl ?_;rintro _ _ ⟨b7,rfl,rfl⟩;rw[rS,<-I5 M.data 0 (L.n*64)];refine fb ?_;refine wLo (λk:Nat=>[(0,.p L.bm),(3,.slice (sA b7) (L.n*64) (L.n*64)),(9,.i (L.n*64:Nat)),(10,.i (k:Int))]) (λk=>[sl .u8 5 (sA b7) (L.n*64) (L.n*64) (cpy M.data 0 (L.n*64) k)]) (λk=>k<=L.n*64) (λk=>L.n*64 - k) (0) Wq1 ?_;rintro k hk;refine Zw6 ?_ ?_<;>intro hc3
 .simp only[ac]at hc3;have hpk:0+k<L.n*64:=by omega
  refine oU ?_;refine Zy (cU rfl rfl (Zv rfl) (show IntKind.u32.wrap (k:Int)=((0+k:Nat):Int) by rw[u32_wrap_id _ Wq1 Wq1];omega)) ?_;refine ZSe (λw hi=>AF L M (0+k) hpk w (bJ.old h hi)) ?_;refine Wq74 ?_;rintro _ _ ⟨rfl,rfl⟩;rw[fQ,PS _ _ Wq1];refine jS ?_;refine qMM (k+1) Wq1
 simp only[aa]at hc3;obtain rfl:k=L.n*64:=by omega
 rw[PU Wq1,List.drop_zero,aM Wq1];refine fb ?_;refine xz ?_;exact⟨b7,rfl,rfl⟩
theorem rP(L:eB)(M:Mem)(w:World)(h:(fw L M).ok w):Ctr prog 96 [.p L.bm] w [] (λv cs=>∃A c,v= .slice A (ip M.Wj 64).length c/\cs=[sl .i64 3 A (ip M.Wj 64).length c (ip M.Wj 64)]):=by
 obtain⟨n1,n64,hdl,hdb,htl⟩:=nc h;obtain⟨k0,hr0,h1,h2,h3,h4⟩:=qD h;refine Zfs func96 ntmps96 ?_;refine rc ?_;refine dQ (bW (vs:=jQ M.Wj) Zrf (λw=>by rw[kO,htl];rfl) (Zv rfl)) (uC (o:=2) h4 Dt) rfl (cY 3 1 (Z_4 ?_));refine wLo (λs:Nat×Option Addr×Nat=>[(0,.p L.bm),(3,.slice s.2.1 (ip M.Wj s.1).length s.2.2),(9,.agg (jQ M.Wj).toArray),(10,.i (s.1:Int))]) (λs=>[sl .i64 3 s.2.1 (ip M.Wj s.1).length s.2.2 (ip M.Wj s.1)]) (λs=>s.1<=64) (λs=>64 - s.1) ((0,none,0)) Wq1 ?_;rintro⟨k,A1,c1⟩ hk;simp only at hk;dsimp only;refine Zw6 ?_ ?_<;>intro hc3
 .simp only[ac]at hc3;have hle:=Q5 M.Wj k;refine Z_7 ?_;refine Zy (GP (j:=k) rfl Zrf Zrf (Zv rfl) (Zv rfl) Wq2 Wq2 (λ_=>La (show k<M.Wj.length by omega))) ?_;refine Zw9 ?_ ?_<;>intro hc5
  .have he:ip M.Wj (k+1)=ip M.Wj k++[(k:Int)]:=by rw[yC,hc5];rfl
   refine Z_3 ?_;refine jD ?_;rintro _ _ ⟨b17,rfl,rfl⟩;refine fo (bV (e:=3) (sz:=1) (bytes:=8) rfl rfl Za rfl rfl (λw hi=>hi.rd Zh) (mQ rfl) Wq9 Wq1) rfl ?_;rintro _ _ ⟨A2,c2,rfl,rfl⟩;rw[show(ip M.Wj k).length+1=(ip M.Wj (k+1)).length by grind,show ints .i64 (ip M.Wj k)++[Value.i (k:Int)]=ints .i64 (ip M.Wj (k+1)) by(rw[he];exact cj _ [_])];refine lI ?_;refine qMM ((k+1,A2,c2)) Wq1
  have he:ip M.Wj (k+1)=ip M.Wj k:=by(rw[yC,hc5];simp)
  rw[<-he];refine jS ?_;refine qMM ((k+1,A1,c1)) Wq1
 simp only[aa]at hc3;obtain rfl:k=64:=by omega
 refine fb ?_;exact Qg
theorem Hr(L:eB)(M:Mem):CI prog 171 [.p L.bm] [fw L M] (λv cs=>v= .tuple #[]/\cs=[fw L M.calm]):=λw hi=>by
 refine ctr_E hi λk hr hi'=>?_
 have htl:=hr.tl;refine Pc func171 rfl ntmps171 rfl hi' ?_;unfold FR;refine Z_2 ?_;refine Zy (iK (vs:=List.replicate 64 (Value.bool false)) Zk (.inr ⟨_,_,_,rfl,λ_=>rfl⟩)) ?_;refine Z_2 ?_;refine eT (kz (n:=64) Zrf rfl rfl (λu hu=>by rw[List.eq_of_mem_replicate hu];rfl) Za (aI) (by rw[nN htl,aI];omega)) ?_;rintro _ _ ⟨rfl,rfl⟩;rw[aI,Bi htl];refine Zn (jE (cs':=[row _ _ _,row _ _ _,slv _ _ _ _ _ _,slv _ _ _ _ _ _,row _ _ _]) (.inr rfl) Zu rfl ?_);exact⟨rfl,k,hr.calm,rfl⟩
theorem rnew_ok(bp bt:Nat)(w:World):Ctr prog 77 [.p bp,.p bt] w [] (λv cs=>∃bm,v= .tuple #[.p bm,.i 0]/\cs=[sZ ⟨bp,bt,0,0,bm,0,0,[],[],[]⟩ (List.replicate 64 false)]):=by
 refine Zfs func77 ntmps77 ?_;refine ue ?_;refine kv ?_;refine Z_7 ?_;refine ZO λb15=>?_
 refine Z_5 ?_;exact AH (cs':=[row _ _ _]) (.inl rfl) Zu rfl rfl rfl ⟨_,rfl,rfl⟩
structure TE where
 valid:Bool
 vpn:Int
 pfn:Int
 bits:Int
structure TE.wf(e:TE):Prop where
 vpn:u32 e.vpn
 pfn:u32 e.pfn
 bits:u32 e.bits
def TE.zero:TE:=⟨false,0,0,0⟩
def TE.cells(e:TE):List Value:=[.bool e.valid,.w e.vpn,.w e.pfn,.w e.bits]
def fv(T:List TE):List Value:=T.flatMap TE.cells
structure Tr where
 Wg:Int
 addr:Int
def Tr.none:Tr:=⟨0,0⟩
abbrev Tr.cells(t:Tr):List Value:=[.i t.Wg,.w t.addr]
abbrev Tr.v(t:Tr):Value:= .agg t.cells.toArray
abbrev TE.v(e:TE):Value:= .agg e.cells.toArray
theorem iD:∀T:List TE,(fv T).length=T.length*4
 |[]=>rfl
 |e::T=>by
  have:=iD T;simp only[fv]at this;simp[fv,TE.cells,this];omega
theorem nu:∀{T:List TE} {i:Nat} {e:TE},T[i]? =some e->((fv T).drop (i*4)).take 4=e.cells
 |[],i,e,h=>by simp at h
 |x::T,0,e,h=>by
  simp only[List.getElem?_cons_zero,bo]at h;subst h
  rfl
 |x::T,i+1,e,h=>by
  simp only[List.getElem?_cons_succ]at h;have:=nu h
  grind [fv,TE.cells]
theorem nq:∀{T:List TE} {i:Nat} (e:TE),i<T.length->(fv T).take (i*4)++e.cells++(fv T).drop (i*4+4)=fv (T.set i e)
 |[],i,e,h=>by simp at h
 |x::T,0,e,_=>by simp[fv,TE.cells]
 |x::T,i+1,e,h=>by
  have ih:=nq (T:=T) (i:=i) e bY
  grind [fv,TE.cells]
def yV(b:Int)(Wf:Bool):Int:=bif Wf then b else bits .or .u32 b 16
def asked(kind:Int)(Wf:Bool):Int×Bool:=
 bif kind==1 then(yV 8 Wf,true)else bif kind==2 then(yV 2 Wf,true)else bif kind==3 then(yV 68 Wf,true)else(0,false)
def fault(kind:Int):Int:=bif kind==1 then 7 else bif kind==2 then 8 else bif kind==3 then 9 else 0
def JE(kind:Int)(Wf:Bool):Int:=
 yV (bif kind==1 then bits .or .u32 1 8 else bif kind==2 then bits .or .u32 1 2 else bif kind==3 then bits .or .u32 1 4 else 1) Wf
def GZ(T:List TE)(va:Nat):TE:=T.getD (va/64%16) TE.zero
def pA(e:TE)(va:Nat)(a:Int×Bool):Bool:=((!a.2|| !e.valid)||(e.vpn !=((va/64:Nat):Int)))||(bits .and .u32 e.bits a.1 !=a.1)
def sV(pfn:Int)(va:Nat):Int:=IntKind.u32.wrap (IntKind.u32.wrap (pfn*64)+((va%64:Nat):Int))
def xO(T:List TE)(va:Nat)(kind:Int)(Wf:Bool):Int×Bool:=
 bif pA (GZ T va) va (asked kind Wf)then(0,false)else(sV (GZ T va).pfn va,true)
def MH(T:List TE)(e:TE):List TE:=bif e.valid then T.set (e.vpn.toNat%16) e else T
def xP(T:List TE)(va:Nat):List TE:=bif(GZ T va).vpn==((va/64:Nat):Int)then T.set (va/64%16) TE.zero else T
def fI:List TE:=List.replicate 16 TE.zero
def lA(n:Nat)(d:Li)(a:Nat):Option Int:=bif decide (a+4<=n*64)then some (u6 d a)else none
def at1(root va:Nat):Nat:=root/64*64+4*(va/1024%16)
def at2(e:Int)(va:Nat):Nat:=(e/256).toNat*64+4*(va/64%16)
def FU(n:Nat)(d:Li)(va:Nat)(e:Int):Option (Nat×Int):=
 bif e%2==0 then none else(lA n d (at2 e va)).map λl=>(at2 e va,l)
def nQ(n:Nat)(d:Li)(root va:Nat):Option (Nat×Int):=
 bif decide (16384<=va)then none else(lA n d (at1 root va)).bind (FU n d va)
def lookV(r:Option (Nat×Int)):Value:=match r with|some (a,l)=> .tuple #[.w a,.w l,.bool true]|none=> .tuple #[.w 0,.w 0,.bool false]
def pi(l:Int)(kind:Int):Int:=bif kind==3 then bits .or .u32 (bits .or .u32 l 32) 64 else bits .or .u32 l 32
def leafE(va:Nat)(l:Int):TE:=⟨true,((va/64:Nat):Int),l/256,bits .and .u32 l 94⟩
def gK(n:Nat)(M:Mem)(root va:Nat)(kind:Int)(Wf:Bool):(TE×Tr)×Mem:=
 bif fault kind==0 then((TE.zero,⟨10,va⟩),M)else
 match nQ n M.data root va with
 |none=>((TE.zero,⟨fault kind,va⟩),M)
 |some (a,l)=>bif bits .and .u32 l (JE kind Wf) !=JE kind Wf then((TE.zero,⟨fault kind,va⟩),M)else
   ((leafE va (pi l kind),Tr.none),bif pi l kind !=l then M.WW a (pi l kind)else M)
structure Mmu where
 m:Mem
 t:List TE
structure Sp where
 Wn:Bool
 Wf:Bool
 root:Nat
abbrev Sp.v(s:Sp):Value:= .agg #[.bool s.Wn,.bool s.Wf,.w (s.root:Int)]
def dq(n:Nat)(U:Mmu)(s:Sp)(va:Nat)(kind:Int):(Int×Tr)×Mmu:=
 bif !s.Wn then(((va:Int),Tr.none),U)else
 bif(xO U.t va kind s.Wf).2 then(((xO U.t va kind s.Wf).1,Tr.none),U)else
 bif(gK n U.m s.root va kind s.Wf).1.2.Wg !=0 then((0,(gK n U.m s.root va kind s.Wf).1.2),⟨(gK n U.m s.root va kind s.Wf).2,U.t⟩)else
 ((sV (gK n U.m s.root va kind s.Wf).1.1.pfn va,(gK n U.m s.root va kind s.Wf).1.2),⟨(gK n U.m s.root va kind s.Wf).2,MH U.t (gK n U.m s.root va kind s.Wf).1.1⟩)
def tT(a:Int):Bool:=decide (32768<=a)&&decide (a<33024)
def cO(n:Nat)(U:Mmu)(s:Sp)(va:Nat)(kind:Int):(Int×Tr)×Mmu:=
 bif fault kind==0 then((0,⟨10,va⟩),U)else
 bif(dq n U s va kind).1.2.Wg !=0 then((0,(dq n U s va kind).1.2),(dq n U s va kind).2)else
 bif(decide ((dq n U s va kind).1.1<((n*64:Nat):Int))||((kind !=1)&&tT (dq n U s va kind).1.1))then dq n U s va kind else((0,⟨10,va⟩),(dq n U s va kind).2)
abbrev Cw(bb:Nat)(T:List TE):bJ:=row bb (fv T) 231
theorem uA(v:Nat)(w:World):CW prog 245 [.w v] w (.w (v%16:Nat)):=by
 refine Zfs func245 ntmps245 ?_;refine Z_8 ?_;refine Zy (jm (Zv rfl) (Zv rfl) Wq1 (show _=((v%16:Nat):Int)from by grind)) ?_;exact o7
theorem MJ(kind:Int)(Wf:Bool)(w:World):CW prog 246 [.i kind,.bool Wf] w (.tuple #[.w (asked kind Wf).1,.bool (asked kind Wf).2]):=by
 refine Zfs func246 ntmps246 ?_;refine om ?_;refine Z_4 ?_;refine ZW ?_ ?_<;>intro hc4
 .refine fb ?_;refine ZW ?_ ?_<;>intro hc10
  .have hs:Wf=false:=by simpa using hc10
   refine jl ?_;refine mf ?_;refine⟨?_,rfl⟩;exact GG
  have hs:Wf=true:=by simpa using hc10
  refine fH ?_;refine mf ?_;refine⟨?_,rfl⟩;exact GG
 refine Zw6 ?_ ?_<;>intro hc6
 .refine fb ?_;refine ZW ?_ ?_<;>intro hc10
  .have hs:Wf=false:=by simpa using hc10
   refine jl ?_;refine mf ?_;refine⟨?_,rfl⟩;exact GG
  have hs:Wf=true:=by simpa using hc10
  refine fH ?_;refine mf ?_;refine⟨?_,rfl⟩;exact GG
 refine Zw6 ?_ ?_<;>intro hc8
 .refine fb ?_;refine ZW ?_ ?_<;>intro hc10
  .have hs:Wf=false:=by simpa using hc10
   refine jl ?_;refine mf ?_;refine⟨?_,rfl⟩;exact GG
  have hs:Wf=true:=by simpa using hc10
  refine fH ?_;refine mf ?_;refine⟨?_,rfl⟩;exact GG
 refine Z_9 ?_;refine mf ?_;refine⟨?_,rfl⟩;exact GG
theorem Mz(w:World):Ctr prog 114 [] w [] (λx cs=>∃bb,x= .p bb/\cs=[Cw bb fI]):=by
 refine Zfs func114 ntmps114 ?_;refine Z_7 ?_;refine Zy (iK (vs:=fv fI) Zk (.inl ⟨_,rfl,rfl⟩)) ?_;refine ZO λb2=>?_
 exact UC
theorem Rg(bb:Nat)(T:List TE)(hT:T.length=16)(va:Nat)(hva:va<=4294967295)(kind:Int)(Wf:Bool)(w:World)(h:(Cw bb T).ok w):CW prog 203 [.p bb,.w va,.i kind,.bool Wf] w (.tuple #[.w (xO T va kind Wf).1,.bool (xO T va kind Wf).2]):=by
 have hlt:va/64%16<T.length:=by omega
 have he:T[va/64%16]? =some (GZ T va):=by simp[GZ,hlt]
 obtain⟨e,hee⟩:=Zgn (GZ T va);obtain⟨a,ha⟩:=Zgn (asked kind Wf);have hA:=MJ kind Wf;unfold xO;rw[hee]at he|-;rw[ha]at hA|-;refine Zfs func203 ntmps203 ?_;refine Z_9 ?_;refine Zy (mh (Zv rfl) (Zv rfl) Wq1 (show _=((va/64:Nat):Int)from by rw[Int.tdiv_eq_ediv_of_nonneg Wq1,u32_wrap_id _ Wq1 Wq1];omega)) ?_;refine Z_4 ?_;refine bU (Zdn [8]) Zk (pP ?_);refine ZE 3 ?_;refine ZFe 4 0 ?_;refine kW 2 7 Zk ?_ ?_
 .refine ZTn (λw hi=>uA (va/64) w) ?_;rintro _ _ ⟨rfl,rfl⟩;refine Wq287 ?_;refine ic ?_;refine ZP λb11=>?_
  refine ig ?_;refine ZR ?_;refine xx ?_;refine ZSe (λw hi=>hA w) ?_;refine om ?_;refine yk ?_ ?_<;>intro hc4
  .have hc:pA e va a=true:=hc4;refine Z_8 ?_;refine mf ?_;rw[hc];exact gr
  have hc:pA e va a=false:=hc4;refine Z_6 ?_;refine Zy (jF Zv0 Zv0 rfl) ?_;refine ZA ?_;exact Wq338
 refine ZP λb11=>?_
 refine cW 2 Zk (ZTn (λw hi=>uA (va/64) w) ?_);rintro _ _ ⟨rfl,rfl⟩;refine Wq287 ?_;refine ig ?_;refine ZR ?_;refine xx ?_;refine ZSe (λw hi=>hA w) ?_;refine om ?_;refine yk ?_ ?_<;>intro hc4
 .have hc:pA e va a=true:=hc4;refine Z_8 ?_;refine mf ?_;rw[hc];exact gr
 have hc:pA e va a=false:=hc4;refine Z_6 ?_;refine Zy (jF Zv0 Zv0 rfl) ?_;refine ZA ?_;exact Wq338
theorem Rh(bb:Nat)(T:List TE)(hT:T.length=16)(e:TE)(he:e.wf):CI prog 205 [.p bb,e.v] [Cw bb T] (λx cs=>x= .bool e.valid/\cs=[Cw bb (MH T e)]):=λw hi=>by
 obtain⟨v0,v1⟩:=he.vpn;obtain⟨vp,hvp⟩:=ao v0;obtain⟨ev,evpn,epfn,eb⟩:=e;simp only at hvp v0 v1;subst hvp;refine Zfn func205 ntmps205 hi ?_;refine Z_2 ?_;refine ZO λb3=>?_;refine mZ ?_ ?_<;>intro hc1
 .have hv:ev=true:=hc1;subst hv;refine bU (Zdn [8]) Zk (Ln ?_);refine ZI 4 ?_;refine ZE 5 ?_;refine ZFe 6 0 ?_;refine cW 3 Zk (ZTn (λw hi=>uA vp w) ?_);rintro _ _ ⟨rfl,rfl⟩;refine Zy4 7 rfl (dz (j:=(vp%16)) (sz:=4) (r:=(vp%16)*4) rfl Zrf (Zv rfl) (Zv rfl) (λ_=>by omega) (λ_=>by omega) (by omega)) ?_;refine ig ?_;refine fy rfl rfl (kz (n:=4) (vs:=TE.cells ⟨true,(vp:Int),epfn,eb⟩) Zrf rfl rfl (mQ rfl) Za rfl (by rw[iD];simp only[TE.cells,aO,List.length_nil];omega)) ZJ ?_;rintro _ _ ⟨rfl,rfl⟩;rw[show(TE.cells ⟨true,(vp:Int),epfn,eb⟩).length=4 from rfl,nq (T:=T) (i:=vp%16) ⟨true,(vp:Int),epfn,eb⟩ (by omega)];refine dR ?_;refine Z_9 ?_;exact BX
 have hv:ev=false:=hc1;subst hv;refine fH ?_;exact BX
theorem Ri(bb:Nat)(T:List TE)(hT:T.length=16)(va:Nat)(hva:va<=4294967295):CI prog 290 [.p bb,.w va] [Cw bb T] (λx cs=>x= .tuple #[]/\cs=[Cw bb (xP T va)]):=λw hi=>by
 have hlt:va/64%16<T.length:=by omega
 have he:T[va/64%16]? =some (GZ T va):=by simp[GZ,hlt]
 have hcell:(fv T)[(va/64%16)*4+1]? =some (.w (GZ T va).vpn):=by
  have h1:=nu he;have h2:(((fv T).drop ((va/64%16)*4)).take 4)[1]? =some (.w (GZ T va).vpn):=by rw[h1];rfl
  rw[List.getElem?_take,if_pos (by omega),List.getElem?_drop]at h2;exact h2
 unfold xP;obtain⟨e,hee⟩:=Zgn (GZ T va);rw[hee]at hcell|-;refine Zfn func290 ntmps290 hi ?_;refine Z_3 ?_;refine Zy (mh (Zv rfl) (Zv rfl) (by omega) (show _=((va/64:Nat):Int)from by rw[Int.tdiv_eq_ediv_of_nonneg (by omega),u32_wrap_id _ (by omega) (by omega)];omega)) ?_;refine Z_4 ?_;refine uf ?_;refine ZE 3 ?_;refine ZFe 4 0 ?_;refine cW 2 Zk (ZTn (λw hi=>uA (va/64) w) ?_);rintro _ _ ⟨rfl,rfl⟩;refine Zy4 5 rfl (dz (j:=(va/64%16)) (sz:=4) (r:=(va/64%16)*4) rfl Zrf (Zv rfl) (Zv rfl) (λ_=>by omega) (λ_=>by omega) (by omega)) ?_;refine ZE 6 ?_;refine dR ?_;refine Z_6 ?_;refine dQ (bM Zrf Zv0) (cB Zh hcell) rfl (Z_4 ?_);refine ZW ?_ ?_<;>intro hc2
 .rw[hc2];refine Z_4 ?_;refine eT (kz (n:=4) (vs:=TE.zero.cells) Zrf rfl rfl (mQ rfl) Za rfl (by rw[iD];simp only[TE.cells,aO,List.length_nil];omega)) ?_;rintro _ _ ⟨rfl,rfl⟩;rw[show TE.zero.cells.length=4 from rfl,nq (T:=T) TE.zero hlt];refine Zn (jE (cs':=[row _ _ _]) (.inr rfl) Zu rfl ?_);exact gr
 rw[hc2];refine Zc (jE (cs':=[row _ _ _]) (.inr rfl) Zu rfl ?_);exact gr
theorem ME(bb:Nat)(T:List TE)(hT:T.length=16):CI prog 289 [.p bb] [Cw bb T] (λx cs=>x= .tuple #[]/\cs=[Cw bb fI]):=λw hi=>by
 refine Zfn func289 ntmps289 hi ?_;refine Z_2 ?_;refine Zy (iK (vs:=fv fI) Zk (.inr ⟨_,_,_,rfl,λ_=>rfl⟩)) ?_;refine Z_2 ?_;refine eT (kz (n:=64) Zrf rfl rfl (mQ Zk) Za Zk (by rw[iD,iD,hT];decide)) ?_;rintro _ _ ⟨rfl,rfl⟩;rw[show(fv fI).length=64 by kernel_rfl,List.take_zero,aR,List.drop_eq_nil_of_le (by rw[iD,hT];decide),aw];refine Zn (jE (cs':=[row _ _ _]) (.inr rfl) Zu rfl ?_);exact gr
theorem IM(kind:Int)(w:World):CW prog 181 [.i kind] w (.i (fault kind)):=by
 refine Zfs func181 ntmps181 ?_;refine EU ?_;refine ZW ?_ ?_<;>intro hc2
 .refine gm ?_;refine⟨?_,rfl⟩;simp only[fault, *,ai,ah]
 refine Zw6 ?_ ?_<;>intro hc4
 .refine gm ?_;refine⟨?_,rfl⟩;simp only[fault, *,ai,ah]
 refine Zw6 ?_ ?_<;>intro hc6
 .refine gm ?_;refine⟨?_,rfl⟩;simp only[fault, *,ai,ah]
 refine lC ?_;refine⟨?_,rfl⟩;simp only[fault, *,ai,ah]
theorem QY(kind:Int)(Wf:Bool)(w:World):CW prog 247 [.i kind,.bool Wf] w (.w (JE kind Wf)):=by
 refine Zfs func247 ntmps247 ?_;refine om ?_;refine Zw3 ?_ ?_<;>intro hc3
 .refine Cc ?_ ?_<;>intro hc9
  .have hs:Wf=false:=by simpa using hc9
   refine yl ?_;refine⟨?_,rfl⟩;exact ED
  have hs:Wf=true:=by simpa using hc9
  refine lC ?_;refine⟨?_,rfl⟩;exact ED
 refine Zw6 ?_ ?_<;>intro hc5
 .refine Cc ?_ ?_<;>intro hc9
  .have hs:Wf=false:=by simpa using hc9
   refine yl ?_;refine⟨?_,rfl⟩;exact ED
  have hs:Wf=true:=by simpa using hc9
  refine lC ?_;refine⟨?_,rfl⟩;exact ED
 refine Zw6 ?_ ?_<;>intro hc7
 .refine Cc ?_ ?_<;>intro hc9
  .have hs:Wf=false:=by simpa using hc9
   refine yl ?_;refine⟨?_,rfl⟩;exact ED
  have hs:Wf=true:=by simpa using hc9
  refine lC ?_;refine⟨?_,rfl⟩;exact ED
 refine mZ ?_ ?_<;>intro hc9
 .have hs:Wf=false:=by simpa using hc9
  refine yl ?_;refine⟨?_,rfl⟩;exact ED
 have hs:Wf=true:=by simpa using hc9
 refine lC ?_;refine⟨?_,rfl⟩;exact ED
theorem and1{v:Int}(h:u32 v):bits .and .u32 v 1=v%2:=bits_mask .u32 32 bX wraps_u32 1 bX v h.1 (by have:=h.2;omega)
theorem Qc{v:Int}(h:u32 v):bits .and .u32 v 15=v%16:=bits_mask .u32 32 bX wraps_u32 4 bX v h.1 (by have:=h.2;omega)
theorem shrE(a:Int)(n:Nat):a.fdiv (2^n)=a/2^n:=by grind
theorem P9(v:Nat)(h:v<=4294967295):bits .andNot .u32 (v:Int) 63=((v/64*64:Nat):Int):=by
 show IntKind.u32.wrap (((BitVec.ofInt 32 (v:Int))&&& ~~~ (BitVec.ofInt 32 63)).toNat:Int)=_;have e1:(BitVec.ofInt 32 (v:Int)).toNat=v:=by rw[BitVec.ofInt_natCast,BitVec.toNat_ofNat];exact Nat.mod_eq_of_lt Wq1
 have h1:v&&&4294967232=(v/64)*64:=by
  apply Nat.eq_of_testBit_eq;intro i;have e:(4294967232:Nat)=(2^26 - 1)*2^6:=by decide
  rw[e,Nat.testBit_and,show(v/64)*64=(v/2^6)*2^6 from rfl];rw[Nat.testBit_mul_two_pow,Nat.testBit_mul_two_pow,Nat.testBit_two_pow_sub_one,Nat.testBit_div_two_pow];by_cases hi:6<=i
  .simp only[hi,decide_true,Bool.true_and,show i - 6+6=i by omega];by_cases h26:i - 6<26
   .simp[h26]
   have:v.testBit i=false:=Nat.testBit_lt_two_pow (Nat.lt_of_lt_of_le (show v<2^32 by omega) (Nat.pow_le_pow_right Wq1 Wq1));simp[this]
  simp[hi]
 grind [u32_wrap_id]
def entV(o:Option Int):Value:=match o with|some e=> .tuple #[.w e,.bool true]|none=> .tuple #[.w 0,.bool false]
theorem pF{e:Int}(h:u8s d)(he:lA n d a=some e):u32 e/\a+4<=n*64:=by
 grind [lA,yv]
variable{va:Nat}
theorem Oh{root:Nat}{l:Int}(h:u8s d)(hl:nQ n d root va=some (a,l)):u32 l/\a+4<=n*64:=by
 unfold nQ at hl;cases hc:decide (16384<=va)with
 |true=>grind
 |false=>
  rw[hc]at hl;simp only[ah]at hl;obtain⟨e,h1,h2⟩:=Option.bind_eq_some_iff.1 hl;unfold FU at h2;cases hc2:(e%2==0)with
  |true=>grind
  |false=>
   rw[hc2]at h2;simp only[ah]at h2;obtain⟨l',h3,h4⟩:=Option.map_eq_some_iff.1 h2;simp only[bA]at h4;obtain⟨rfl,rfl⟩:=h4;exact pF h h3
theorem iW(op:BinOp)(a b:Int):u32 (bits op .u32 a b):=by
 cases op<;>exact⟨by show 0<=IntKind.u32.wrap _;rw[aG];omega,by show IntKind.u32.wrap _<=_;rw[aG];omega⟩
theorem y8(l:Int)(kind:Int):u32 (pi l kind):=by
 grind [pi,iW]
theorem IU(L:eB)(M:Mem)(a:Nat)(ha:a<=4294967295000)(w:World)(h:(fw L M).ok w):CW prog 291 [.p L.bm,.int .u64 a] w (entV (lA L.n M.data a)):=by
 obtain⟨n1,n64,hdl,hdb,htl⟩:=nc h;refine Zfs func291 ntmps291 ?_;refine gq ?_;refine ZSe (λw hi=>oD L M w (bJ.old h hi)) ?_;refine xC ?_;refine Zw3 ?_ ?_<;>intro hc1
 .simp only[ac]at hc1;have hc:decide (a+4<=L.n*64)=false:=aF Wq1
  refine Z_8 ?_;refine mf ?_;unfold entV lA;rw[hc];exact gr
 simp only[aa]at hc1;refine Z_3 ?_;refine(Bool.eq_false_or_eq_true (decide (a+4<=L.n*64))).elim (λh0=>?_) (λh0=>?_)
 .refine Wq418 ?_;simp only[ai];refine Z_7 ?_;exact lc
 refine Wq418 ?_;refine iB ?_;refine Z_7 ?_;exact lc
theorem look_ok(L:eB)(M:Mem)(root va:Nat)(hroot:root<=4294967295)(hva:va<=4294967295)(w:World)(h:(fw L M).ok w):CW prog 248 [.p L.bm,.w root,.w va] w (lookV (nQ L.n M.data root va)):=by
 obtain⟨n1,n64,hdl,hdb,htl⟩:=nc h;obtain⟨e1,he1⟩:=Zgn (lA L.n M.data (at1 root va));have HE1:=IU L M (at1 root va) (by unfold at1;omega);rw[he1]at HE1;refine Zfs func248 ntmps248 ?_;refine EU ?_;refine ZW ?_ ?_<;>intro hc1
 .have hc:decide (16384<=va)=true:=by(have h0:(16384:Int)<=va:=by simpa using hc1);exact aE Wq1
  have hl:nQ L.n M.data root va=none:=by(unfold nQ;rw[hc];rfl)
  rw[hl];refine Z_9 ?_;refine Qh ?_;exact gr
 have hlt:va<16384:=by(have h0:¬(16384:Int)<=va:=by simpa using hc1);omega
 have hl:nQ L.n M.data root va=e1.bind (FU L.n M.data va):=by(unfold nQ;grind)
 rw[hl];refine Z_3 ?_;revert HE1 he1;refine Option.rec (λhe1 HE1=>?_) (λe he1 HE1=>?_) e1
 .refine Z_3 ?_;refine Wq489 ?_;simp only[entV];refine Gv ?_;refine pX ?_;refine Z_9 ?_;refine Qh ?_;exact gr
 refine Z_3 ?_;refine Wq489 ?_;simp only[entV];refine fH ?_;have heu:=(pF hdb he1).1;obtain⟨eu0,eu1⟩:=heu;refine Z_4 ?_;refine Zyn rfl rfl (sN (cA rfl) Zv0 (and1 ⟨eu0,eu1⟩)) ?_;refine Z_4 ?_;refine ZW ?_ ?_<;>intro hc4
 .have hc:(e%2==0)=true:=hc4;have hl2:(some e).bind (FU L.n M.data va)=none:=by(simp only[Option.bind_some];unfold FU;rw[hc];rfl)
  rw[hl2];refine Z_9 ?_;refine Qh ?_;exact gr
 have hc:(e%2==0)=false:=hc4;have hl2:(some e).bind (FU L.n M.data va)=(lA L.n M.data (at2 e va)).map λl=>(at2 e va,l):=by(simp only[Option.bind_some];unfold FU;rw[hc];rfl)
 rw[hl2];obtain⟨e2,he2⟩:=Zgn (lA L.n M.data (at2 e va));have HE2:=IU L M (at2 e va) (by unfold at2;omega);rw[he2]at HE2|-;have hat:((at2 e va:Nat):Int)=e/256*64+4*((va/64%16:Nat):Int):=(by unfold at2;omega);refine Z_5 ?_;refine Zy (lJ (Zv rfl) (Zv rfl) Wq1 (show _=e/256 from shrE _ 8)) ?_;refine xC ?_;refine Zy (jF (Zv rfl) (Zv rfl) (show _=e/256*64 from u64_wrap_id _ Wq1 Wq1)) ?_;refine ZA ?_;refine Zy (lJ (Zv rfl) (Zv rfl) Wq1 (show _=((va/64:Nat):Int)from(shrE _ 6).trans Wq1)) ?_;refine Zy (sN (Zv rfl) (Zv rfl) (show _=((va/64%16:Nat):Int)from(Qc ⟨by omega,by omega⟩).trans Wq1)) ?_;refine Zy (jF (Zv rfl) (Zv rfl) (show _=((4*(va/64%16):Nat):Int)from(u32_wrap_id _ Wq1 Wq1).trans Wq1)) ?_;refine xC ?_;refine Zy (eK (Zv rfl) (Zv rfl) (show _=((at2 e va:Nat):Int)from(u64_wrap_id _ Wq1 Wq1).trans Wq1)) ?_;refine Z_4 ?_;revert HE2 he2;refine Option.rec (λhe2 HE2=>?_) (λl he2 HE2=>?_) e2
 .refine Z_3 ?_;refine ZSe (λw hi=>HE2 w (bJ.old h hi)) ?_;simp only[entV];refine jl ?_;refine pX ?_;refine Z_9 ?_;refine Qh ?_;exact gr
 refine Z_3 ?_;refine ZSe (λw hi=>HE2 w (bJ.old h hi)) ?_;simp only[entV];refine sG ?_;refine Z_4 ?_;have h2in:=(pF hdb he2).2;refine ZA ?_;refine Zy (cU rfl rfl (Zv rfl) (u32_wrap_id _ Wq1 Wq1)) ?_;refine Z_7 ?_;refine Qh ?_;exact gr
theorem wdo_ok(L:eB)(M:Mem)(root va:Nat)(hroot:root<=4294967295)(hva:va<=4294967295)(kind:Int)(Wf:Bool):CI prog 204 [.p L.bm,.w root,.w va,.i kind,.bool Wf] [fw L M] (λv cs=>v= .tuple #[(gK L.n M root va kind Wf).1.1.v,(gK L.n M root va kind Wf).1.2.v]/\cs=[fw L (gK L.n M root va kind Wf).2]):=λw hi=>by
 obtain⟨n1,n64,hdl,hdb,htl⟩:=nc (hi.ok _ (List.mem_cons_self ..));obtain⟨fk,hfk⟩:=Zgn (fault kind);obtain⟨wb,hwb⟩:=Zgn (JE kind Wf);obtain⟨lk,hlk⟩:=Zgn (nQ L.n M.data root va);have HF:=IM kind;have HB:=QY kind Wf;have HL:=look_ok L M root va hroot hva;unfold gK;rw[hfk]at HF|-;rw[hwb]at HB|-;rw[hlk]at HL|-;refine Zfn func204 ntmps204 hi ?_;refine Z_2 ?_;refine ZN λb10=>?_;refine ZN λb11=>?_
 refine Z_5 ?_;refine ZSe (λw hi=>HF w) ?_;refine Cc ?_ ?_<;>intro hc2
 .have hc:(fk==0)=true:=hc2;rw[hc];simp only[ai];refine Z_5 ?_;refine ZM ?_;refine jC ?_;exact Vd
 have hc:(fk==0)=false:=hc2;rw[hc];refine iB ?_;refine Z_6 ?_;refine ZSe (λw hi=>HB w) ?_;refine Z_4 ?_;revert HL hlk;refine Option.rec (λhlk HL=>?_) (λal hlk HL=>?_) lk
 .refine Z_4 ?_;refine ZSe (λw hi=>HL w (hi.get Zh)) ?_;simp only[lookV];refine om ?_;refine Z_3 ?_;refine pX ?_;refine Z_6 ?_;refine ZM ?_;refine jC ?_;exact Vd
 obtain⟨a,l⟩:=al;have hin:=Oh hdb hlk;obtain⟨lu,ain⟩:=hin;obtain⟨lu0,lu1⟩:=lu;have mu:=y8 l kind;simp only;refine Z_4 ?_;refine ZSe (λw hi=>HL w (hi.get Zh)) ?_;simp only[lookV];refine om ?_;refine Zw3 ?_ ?_<;>intro hc6
 .have hc6':(bits .and .u32 l wb !=wb)=true:=hc6;rw[hc6'];simp only[ai];refine Z_6 ?_;refine ZM ?_;refine jC ?_;exact Vd
 have hc6':(bits .and .u32 l wb !=wb)=false:=hc6;rw[hc6'];refine iB ?_;refine om ?_;refine Z_2 ?_;refine ZW ?_ ?_<;>intro hc10
 .have hm:pi l kind=bits .or .u32 (bits .or .u32 l 32) 64:=by(unfold pi;grind)
  rw[hm]at mu|-;obtain⟨m,hmm⟩:=Zgn (bits .or .u32 (bits .or .u32 l 32) 64);refine Z_9 ?_;rw[hmm]at mu|-;refine Zw5 ?_ ?_<;>intro hc12
  .exact Wq446
  rw[hc12];refine iB ?_;exact Wq404
 have hm:pi l kind=bits .or .u32 l 32:=by(unfold pi;grind)
 rw[hm]at mu|-;obtain⟨m,hmm⟩:=Zgn (bits .or .u32 l 32);refine Z_5 ?_;rw[hmm]at mu|-;refine Zw5 ?_ ?_<;>intro hc12
 .exact Wq446
 rw[hc12];refine iB ?_;exact Wq404
theorem SM(h:va<=4294967295){l:Int}(hl:u32 l):(leafE va l).wf:=
 ⟨⟨by show(0:Int)<=((va/64:Nat):Int);omega,by show((va/64:Nat):Int)<=_;omega⟩,⟨by show 0<=l/256;have:=hl.1;omega,by show l/256<=_;have:=hl.1;have:=hl.2;omega⟩,iW .and _ _⟩
theorem TE.zero_wf:TE.zero.wf:=⟨⟨by decide,by decide⟩,⟨by decide,by decide⟩,⟨by decide,by decide⟩⟩
theorem Mb(n:Nat)(M:Mem)(root va:Nat)(h:va<=4294967295)(kind:Int)(Wf:Bool):(gK n M root va kind Wf).1.1.wf:=by
 grind [gK,fault,TE.zero_wf,bits,JE,SM,y8]
theorem MF(T:List TE)(e:TE):(MH T e).length=T.length:=by grind [MH]
theorem MI(T:List TE)(va:Nat):(xP T va).length=T.length:=by grind [xP,GZ]
theorem Cv(n:Nat)(U:Mmu)(s:Sp)(va:Nat)(kind:Int):(dq n U s va kind).2.t.length=U.t.length:=by
 grind [dq,xO,gK,MF]
theorem vR(n:Nat)(U:Mmu)(s:Sp)(va:Nat)(kind:Int):(cO n U s va kind).2.t.length=U.t.length:=by
 grind [Cv,cO,fault,dq,tT]
abbrev LG(bu bm bb:Nat):bJ:=row bu [.p bm,.p bb] 200
abbrev uF(bu bb:Nat)(L:eB)(U:Mmu):List bJ:=[LG bu L.bm bb,fw L U.m,Cw bb U.t]
theorem wP(a:Int)(w:World):CW prog 183 [.w a] w (.bool (tT a)):=by
 refine Zfs func183 ntmps183 ?_;refine ue ?_;exact ru
theorem NP(bm:Nat)(w:World):Ctr prog 80 [.p bm] w [] (λv cs=>∃bu bb,v= .tuple #[.p bu,.i 0]/\cs=[Cw bb fI,LG bu bm bb]):=by
 refine Zfs func80 ntmps80 ?_;refine ng ?_;refine kv ?_;refine Z_5 ?_;refine ZSn (λw hi=>Mz w) ?_;rintro _ _ ⟨bb,rfl,rfl⟩;refine ZA ?_;refine ZO λb9=>?_
 refine Z_5 ?_;exact AH (cs':=[row _ _ _,row _ _ _]) (.inl rfl) Zu rfl rfl rfl pO
theorem zU(bu bm bb:Nat)(w:World)(h:(LG bu bm bb).ok w):CW prog 167 [.p bu] w (.p bm):=by
 refine Zfs func167 ntmps167 ?_;refine uh ?_;exact o7
theorem Q3(bu bb:Nat)(L:eB)(U:Mmu)(hT:U.t.length=16)(va:Nat)(hva:va<=4294967295):CI prog 244 [.p bu,.w va] (uF bu bb L U) (λv cs=>v= .tuple #[]/\cs=uF bu bb L ⟨U.m,xP U.t va⟩):=λw hi=>by
 refine Zfn func244 ntmps244 hi ?_;refine Z_6 ?_;refine ZcM ([Cw bb U.t]) (λw hi hin=>Ri bb U.t hT va hva w hin) ?_;refine Zn (bO (uF bu bb L ⟨U.m,xP U.t va⟩) Zj ?_);exact jE (cs':=uF _ _ _ _) (.inr rfl) Zu rfl gr
theorem Mk(bu bb:Nat)(L:eB)(U:Mmu)(hT:U.t.length=16):CI prog 243 [.p bu] (uF bu bb L U) (λv cs=>v= .tuple #[]/\cs=uF bu bb L ⟨U.m,fI⟩):=λw hi=>by
 refine Zfn func243 ntmps243 hi ?_;refine Z_5 ?_;refine ZcM ([Cw bb U.t]) (λw hi hin=>ME bb U.t hT w hin) ?_;refine Zn (bO (uF bu bb L ⟨U.m,fI⟩) Zj ?_);exact jE (cs':=uF _ _ _ _) (.inr rfl) Zu rfl gr
abbrev trC(b:Nat)(t:Tr):bJ:=row b t.cells 270
abbrev teC(b:Nat)(e:TE):bJ:=row b e.cells 228
theorem Mp(bu bb:Nat)(L:eB)(U:Mmu)(hT:U.t.length=16)(s:Sp)(hr:s.root<=4294967295)(va:Nat)(hva:va<=4294967295)(kind:Int):CI prog 182 [.p bu,s.v,.w va,.i kind] (uF bu bb L U) (λv cs=>v= .tuple #[.w (dq L.n U s va kind).1.1,(dq L.n U s va kind).1.2.v]/\cs=uF bu bb L (dq L.n U s va kind).2):=λw hi=>by
 obtain⟨fd,hfd⟩:=Zgn (xO U.t va kind s.Wf);obtain⟨wd,hwd⟩:=Zgn (gK L.n U.m s.root va kind s.Wf);have hwf:=Mb L.n U.m s.root va hva kind s.Wf;have HFD:=Rg bb U.t hT va hva kind s.Wf;have HWD:=wdo_ok L U.m s.root va hr hva kind s.Wf;unfold dq;rw[hfd]at HFD|-;rw[hwd]at HWD hwf|-;obtain⟨⟨te,tr⟩,M'⟩:=wd;simp only at HWD hwf|-;refine Zfn func182 ntmps182 hi ?_;refine Z_2 ?_;refine ZO λb5=>?_;refine ZA ?_;refine ZN λb9=>?_
 refine mZ ?_ ?_<;>intro hc1
 .rw[hc1];simp only[ai];refine Z_5 ?_;refine jC ?_;exact Uj
 rw[hc1];refine iB ?_;refine Z_4 ?_;refine uf ?_;refine ZFe 2 1 ?_;refine Ca ?_;refine ZFe 6 1 ?_;refine ZG 7 ?_;refine ig ?_;refine ZTn (λw hi=>HFD w (hi.get Zh)) ?_;rintro _ _ ⟨rfl,rfl⟩;refine un ?_;refine ZE 12 ?_;refine ZE 13 ?_;refine dR ?_;refine Zw6 ?_ ?_<;>intro hc4
 .rw[hc4];simp only[ai];refine Z_5 ?_;refine jC ?_;exact Uj
 rw[hc4];refine iB ?_;refine Z_2 ?_;refine cL (λq:Nat×Nat=>[(0,.p bu),(2,.w va),(9,.p b9),(12,.p q.1),(13,.p q.2)]) (λq=>[LG bu L.bm bb,fw L M',Cw bb U.t,trC b9 Tr.none,teC q.1 te,trC q.2 tr]) (λ_=>True) ?_ ?_
 .refine bU (Zdn [10,16,17]) Zk (uj ?_);refine ZG 3 ?_;refine ZFe 4 2 ?_;refine ZG 5 ?_;refine ZE 6 ?_;refine ZE 7 ?_;refine ZFe 8 1 ?_;refine ZG 9 ?_;refine wa_3 10 14 15 Zk ?_ ?_ ?_
  .refine Qk ?_;rintro _ _ ⟨_,⟨rfl,rfl⟩,rfl⟩;refine GC ?_;refine kW 14 15 Zk ?_ ?_
   .refine ZP λb12=>?_
    refine cW 15 Zk ?_;refine ZP λb13=>?_
    refine Lz ?_;rintro _ _ ⟨rfl,rfl⟩;refine Ly ?_;rintro _ _ ⟨rfl,rfl⟩;refine dR ?_;refine qMP ((b12,b13)) kY
   refine ZP λb13=>?_
   refine cW 14 Zk ?_;refine ZP λb12=>?_
   refine Lz ?_;rintro _ _ ⟨rfl,rfl⟩;refine Ly ?_;rintro _ _ ⟨rfl,rfl⟩;refine dR ?_;refine qMP ((b12,b13)) kY
  .refine ZP λb12=>?_
   refine kW 10 15 Zk ?_ ?_
   .refine Qk ?_;rintro _ _ ⟨_,⟨rfl,rfl⟩,rfl⟩;refine GC ?_;refine cW 15 Zk ?_;refine ZP λb13=>?_
    refine Lz ?_;rintro _ _ ⟨rfl,rfl⟩;refine Ly ?_;rintro _ _ ⟨rfl,rfl⟩;refine dR ?_;refine qMP ((b12,b13)) kY
   refine ZP λb13=>?_
   refine mb ?_;refine Qk ?_;rintro _ _ ⟨_,⟨rfl,rfl⟩,rfl⟩;refine GC ?_;refine Lz ?_;rintro _ _ ⟨rfl,rfl⟩;refine Ly ?_;rintro _ _ ⟨rfl,rfl⟩;refine dR ?_;refine qMP ((b12,b13)) kY
  refine ZP λb13=>?_
  refine kW 10 14 Zk ?_ ?_
  .refine Qk ?_;rintro _ _ ⟨_,⟨rfl,rfl⟩,rfl⟩;refine GC ?_;refine cW 14 Zk ?_;refine ZP λb12=>?_
   refine Lz ?_;rintro _ _ ⟨rfl,rfl⟩;refine Ly ?_;rintro _ _ ⟨rfl,rfl⟩;refine dR ?_;refine qMP ((b12,b13)) kY
  refine ZP λb12=>?_
  refine mb ?_;refine Qk ?_;rintro _ _ ⟨_,⟨rfl,rfl⟩,rfl⟩;refine GC ?_;refine Lz ?_;rintro _ _ ⟨rfl,rfl⟩;refine Ly ?_;rintro _ _ ⟨rfl,rfl⟩;refine dR ?_;refine qMP ((b12,b13)) kY
 rintro⟨b12,b13⟩ -;dsimp only;refine Zw8 ?_ ?_<;>intro hc7
 .rw[hc7];simp only[ai];refine Zs (bU (Zdn [2]) Zk ?_);refine Qv ?_;refine Z_3 ?_;exact Uj
 rw[hc7];refine iB ?_;refine Z_3 ?_;refine bU (Zdn [5]) Zk (pP ?_);refine ZFe 2 1 ?_;refine ZG 3 ?_;refine ZI 4 ?_;refine kQ ?_;refine tD ([Cw bb U.t]) (λw hi hin=>Rh bb U.t hT te hwf w hin) ?_;rintro _ _ ⟨rfl,rfl⟩;refine jU ?_;refine bU (Zdn [8]) Zk (ZFe 0 2 ?_);refine ZG 1 ?_;refine Zy4 2 rfl (jF Zv0 Zv0 rfl) ?_;refine ZE 3 ?_;refine Zy4 4 rfl (jm (Zv rfl) (Zv rfl) Wq1 (show _=((va%64:Nat):Int)from by grind)) ?_;refine Zy4 5 rfl (eK Zv0 Zv0 rfl) ?_;refine ZI 6 ?_;refine ZE 7 ?_;refine ig ?_;refine ZR ?_;refine jU ?_;exact bO [LG bu L.bm bb,fw L M',Cw bb (MH U.t te),trC b9 tr] Zj Uj
theorem vS(pfn:Int)(va:Nat):u32 (sV pfn va)/\sV pfn va%64=((va%64:Nat):Int):=by
 unfold sV;rw[aG,aG];exact⟨⟨by omega,by omega⟩,by omega⟩
theorem zV(n:Nat)(U:Mmu)(s:Sp)(va:Nat)(hva:va<=4294967295)(kind:Int):u32 (dq n U s va kind).1.1/\((dq n U s va kind).1.2.Wg=0->(dq n U s va kind).1.1%64=((va%64:Nat):Int)):=by
 unfold dq;cases(!s.Wn)with
 |true=>exact⟨⟨by grind,by grind⟩,λ_=>by grind⟩
 |false=>
  refine iB ?_;cases hf:(xO U.t va kind s.Wf).2 with
  |true=>
   grind [xO,pA,GZ,asked,vS]
  |false=>
   refine iB ?_;cases hc:((gK n U.m s.root va kind s.Wf).1.2.Wg !=0)with
   |true=>
    simp only[ai];refine⟨⟨by decide,by decide⟩,λh=>?_⟩
    grind
   |false=>
    grind [vS,gK]
structure QF(n:Nat)(va:Nat)(p:Int):Prop where
 u:u32 p
 m:p%64=((va%64:Nat):Int)
 r:p<((n*64:Nat):Int)\/tT p=true
theorem ju(n:Nat)(U:Mmu)(s:Sp)(va:Nat)(hva:va<=4294967295)(kind:Int):u32 (cO n U s va kind).1.1/\((cO n U s va kind).1.2.Wg=0->QF n va (cO n U s va kind).1.1):=by
 obtain⟨h1,h2⟩:=zV n U s va hva kind;have u0:u32 0:=⟨by decide,by decide⟩;unfold cO;cases hf:(fault kind==0)with
 |true=>grind
 |false=>
  refine iB ?_;cases hc:((dq n U s va kind).1.2.Wg !=0)with
  |true=>
   grind
  |false=>
   refine iB ?_;cases hr:(decide ((dq n U s va kind).1.1<((n*64:Nat):Int))||((kind !=1)&&tT (dq n U s va kind).1.1))with
   |false=>grind
   |true=>
    simp only[ai];refine⟨h1,λh=>⟨h1,h2 h,?_⟩⟩
    grind
def et(va:Nat):Nat:=(va - va%64+64)%4294967296
theorem mC(va:Nat):et va<=4294967295:=by unfold et;omega
theorem Dj(va:Nat):et va%64=0:=by unfold et;omega
def mT(a b:Int)(va j:Nat):Int:=bif decide (j<64 - va%64)then IntKind.u32.wrap (a+(j:Int))else IntKind.u32.wrap (b+((j - (64 - va%64):Nat):Int))
def pw(a b:Int)(va k:Nat):List Int:=(List.range k).map (mT a b va)
theorem yG(a b:Int)(va k:Nat):pw a b va (k+1)=pw a b va k++[mT a b va k]:=by simp[pw,List.range_succ]
theorem CH(a b:Int)(va k:Nat):(pw a b va k).length=k:=by simp[pw]
def fK(a b:Int)(va k:Nat)(t:Tr)(U:Mmu):(List Int×Tr)×Mmu:=
 bif tT a then(([],⟨10,va⟩),U)else bif(decide (((64 - va%64:Nat):Int)<(k:Int))&&tT b)then(([],⟨10,et va⟩),U)else((pw a b va k,t),U)
def JX(n:Nat)(s:Sp)(va k:Nat)(kind:Int)(p1:(Int×Tr)×Mmu):(List Int×Tr)×Mmu:=
 bif(cO n p1.2 s (et va) kind).1.2.Wg !=0 then(([],(cO n p1.2 s (et va) kind).1.2),(cO n p1.2 s (et va) kind).2)
 else fK p1.1.1 (cO n p1.2 s (et va) kind).1.1 va k (cO n p1.2 s (et va) kind).1.2 (cO n p1.2 s (et va) kind).2
def JY(n:Nat)(s:Sp)(va k:Nat)(kind:Int)(p1:(Int×Tr)×Mmu):(List Int×Tr)×Mmu:=
 bif p1.1.2.Wg !=0 then(([],p1.1.2),p1.2)else
 bif decide (((64 - va%64:Nat):Int)<(k:Int))then JX n s va k kind p1 else fK p1.1.1 0 va k p1.1.2 p1.2
def eX(n:Nat)(U:Mmu)(s:Sp)(va k:Nat)(kind:Int):(List Int×Tr)×Mmu:=JY n s va k kind (cO n U s va kind)
theorem G6{a b:Int}(hn:n<=64)(ha:0<=a)(ha1:a<((n*64:Nat):Int))(hm:a%64=((va%64:Nat):Int))(hb:((64 - va%64:Nat):Int)<(k:Int)->0<=b/\b<((n*64:Nat):Int)/\b%64=0)(hk:k<=4):∀x,x∈pw a b va k->0<=x/\x<((n*64:Nat):Int):=by
 intro x hx;unfold pw at hx;obtain⟨j,hj,rfl⟩:=aZ.1 hx;rw[List.mem_range]at hj;unfold mT;cases hc:decide (j<64 - va%64)with
 |true=>
  grind [IntKind.wrap_u32]
 |false=>
  refine iB ?_;have h1:=of_decide_eq_false hc;obtain⟨b0,b1,b2⟩:=hb Wq1;rw[aG];omega
theorem Gi{a:Int}(h:tT a=false){n:Nat}{va:Nat}(hp:QF n va a):a<((n*64:Nat):Int):=by
 grind [hp.r]
theorem CG{U:Mmu}{s:Sp}(hn:n<=64)(hva:va<=4294967295){kind:Int}(hk:k<=4):∀x,x∈(eX n U s va k kind).1.1->0<=x/\x<((n*64:Nat):Int):=by
 obtain⟨_,h1⟩:=ju n U s va hva kind;unfold eX JY;cases hc:((cO n U s va kind).1.2.Wg !=0)with
 |true=>grind
 |false=>
  refine iB ?_;have p1:=h1 bY;cases hl:decide (((64 - va%64:Nat):Int)<(k:Int))with
  |true=>
   simp only[ai];unfold JX;obtain⟨_,h2⟩:=ju n (cO n U s va kind).2 s (et va) (mC va) kind;cases hc2:((cO n (cO n U s va kind).2 s (et va) kind).1.2.Wg !=0)with
   |true=>grind
   |false=>
    refine iB ?_;have p2:=h2 bY;unfold fK;cases d1:tT (cO n U s va kind).1.1 with
    |true=>grind
    |false=>
     refine iB ?_;rw[hl];simp only[Bool.true_and];cases d2:tT (cO n (cO n U s va kind).2 s (et va) kind).1.1 with
     |true=>grind
     |false=>
      refine iB ?_;exact G6 hn p1.u.1 (Gi d1 p1) p1.m (λ_=>⟨p2.u.1,Gi d2 p2,by simp[p2.m,Dj]⟩) hk
  |false=>
   refine iB ?_;unfold fK;cases d1:tT (cO n U s va kind).1.1 with
   |true=>grind
   |false=>
    refine iB ?_;rw[hl];simp only[Bool.false_and,ah];exact G6 hn p1.u.1 (Gi d1 p1) p1.m (λh=>absurd h (of_decide_eq_false hl)) hk
theorem rG{U:Mmu}{s:Sp}{kind:Int}:(eX n U s va k kind).1.1.length<=k:=by
 grind [eX,JY,JX,fK,CH]
def ge(d:Li):List Int->Int
 |[]=>0
 |a::l=>gB d a.toNat+256*ge d l
theorem nJ{d:Li}(h:u8s d):∀l:List Int,0<=ge d l/\ge d l<256^l.length
 |[]=>by simp[ge]
 |a::l=>by
  have h1:=kJ h a.toNat;have h2:=nJ h l
  grind [ge]
theorem AW(h:u8s d){l:Li}(hl:l.length<=4){j:Nat}(hj:j<l.length):bits .or .u32 (IntKind.u32.wrap (ge d (l.drop (j+1))*2^(min (8:Int).toNat IntKind.u32.bits))) (gB d (l[j]'hj).toNat)=ge d (l.drop j):=by
 have h1:=nJ h (l.drop (j+1));have h2:=kJ h (l[j]'hj).toNat;have h3:(l.drop (j+1)).length<=3:=by rw[bH];omega
 rw[show l.drop j=l[j]'hj::l.drop (j+1)from List.drop_eq_getElem_cons hj];simp only[ge];generalize ge d (l.drop (j+1))=v at h1;generalize (l.drop (j+1)).length=m at h1 h3;have hv:0<=v/\v<16777216:=by
  obtain rfl|rfl|rfl|rfl:m=0\/m=1\/m=2\/m=3:=by omega
  all_goals (simp at h1;omega)
 have e1:(2:Int)^(min (8:Int).toNat IntKind.u32.bits)=256:=rfl;rw[e1,u32_wrap_id _ Wq1 Wq1,bits_join .u32 32 bX wraps_u32 8 (v*256) _ Wq1 Wq1 Wq1 Wq1 Wq1 Wq1];omega
def WM(M:Mem)(l:Li)(v:Int):Nat->Mem
 |0=>M
 |k+1=>(WM M l v k).put ((l.getD k 0).toNat) (vc v k)
def qG(n:Nat)(U:Mmu)(s:Sp)(va k:Nat):(Int×Tr)×Mmu:=
 ((ge (eX n U s va k 2).2.m.data (eX n U s va k 2).1.1,(eX n U s va k 2).1.2),(eX n U s va k 2).2)
def pt(n:Nat)(U:Mmu)(s:Sp)(va k:Nat)(v:Int):Tr×Mmu:=
 ((eX n U s va k 3).1.2,⟨WM (eX n U s va k 3).2.m (eX n U s va k 3).1.1 v (eX n U s va k 3).1.1.length,(eX n U s va k 3).2.t⟩)
theorem E4(v:Int){k:Nat}(hk:k<4):IntKind.u8.wrap (v.fdiv (2^(min (IntKind.i64.wrap (8*(k:Int))).toNat IntKind.u32.bits)))=vc v k:=by
 rw[<-Cm v hk];obtain rfl|rfl|rfl|rfl:k=0\/k=1\/k=2\/k=3:=by omega
 all_goals rfl
theorem qd(bu bb:Nat)(L:eB)(U:Mmu)(hT:U.t.length=16)(s:Sp)(hr:s.root<=4294967295)(va:Nat)(hva:va<=4294967295)(kind:Int):CI prog 166 [.p bu,s.v,.w va,.i kind] (uF bu bb L U) (λv cs=>v= .tuple #[.w (cO L.n U s va kind).1.1,(cO L.n U s va kind).1.2.v]/\cs=uF bu bb L (cO L.n U s va kind).2):=λw hi=>by
 obtain⟨fk,hfk⟩:=Zgn (fault kind);obtain⟨td,htd⟩:=Zgn (dq L.n U s va kind);have HF:=IM kind;have HT:=Mp bu bb L U hT s hr va hva kind;unfold cO;rw[hfk]at HF|-;rw[htd]at HT|-;obtain⟨⟨p,tr⟩,U'⟩:=td;simp only at HT|-;refine Zfn func166 ntmps166 hi ?_;refine Z_2 ?_;refine ZO λb5=>?_;refine ZA ?_;refine ZN λb9=>?_
 refine Z_6 ?_;refine ZN λb10=>?_
 refine jj ?_;refine ZSe (λw hi=>HF w) ?_;refine Zw3 ?_ ?_<;>intro hc2
 .rw[hc2];simp only[ai];refine Zs (bU (Zdn [2]) Zk ?_);refine Qv ?_;refine Z_3 ?_;exact Uj
 rw[hc2];refine iB ?_;refine Z_8 ?_;refine ZcM (uF bu bb L U) (λw hi hin=>HT w hin) ?_;refine Z_3 ?_;refine ZN λb12=>?_
 refine Wq457 ?_;rintro _ _ ⟨rfl,rfl⟩;refine mZ ?_ ?_<;>intro hc5
 .rw[hc5];simp only[ai];refine Zs (bU (Zdn [2]) Zk ?_);refine Qv ?_;refine Z_3 ?_;exact Uj
 rw[hc5];refine iB ?_;refine fH ?_;refine ZSe (λw hi=>oD L U'.m w (hi.get Zh)) ?_;refine Z_6 ?_;refine dE (df rfl rfl) (.cons (cA rfl) .nil) (λ_ _=>rfl) (λhg w hi=>wP p w) rfl (Z_4 ?_);refine ZW ?_ ?_<;>intro hc7
 .rw[hc7];simp only[ai];refine Zs (bU (Zdn [3]) Zk ?_);refine UF ?_;refine dR ?_;refine Z_3 ?_;exact Uj
 rw[hc7];refine iB ?_;refine Z_3 ?_;refine bU (Zdn [2]) Zk (ZI 0 ?_);refine ZE 1 ?_;refine cW 2 Zk (ZR ?_);refine jU ?_;exact Uj
theorem MV(bu bb:Nat)(L:eB)(U:Mmu)(hT:U.t.length=16)(s:Sp)(hr:s.root<=4294967295)(va k:Nat)(hva:va<=4294967295)(hk1:1<=k)(hk4:k<=4)(kind:Int):CI prog 312 [.p bu,s.v,.w va,.i k,.i kind] (uF bu bb L U) (λv cs=>∃A c,v= .tuple #[.slice A (eX L.n U s va k kind).1.1.length c,(eX L.n U s va k kind).1.2.v]/\cs=uF bu bb L (eX L.n U s va k kind).2++[sl .u32 49 A (eX L.n U s va k kind).1.1.length c (eX L.n U s va k kind).1.1]):=λw hi=>by
 have HP1:=qd bu bb L U hT s hr va hva kind;have hl1:=vR L.n U s va kind;obtain⟨p1,hp1⟩:=Zgn (cO L.n U s va kind);unfold eX;rw[hp1]at HP1 hl1|-;rw[hT]at hl1;have HP2:=qd bu bb L p1.2 hl1 s hr (et va) (mC va) kind;obtain⟨p2,hp2⟩:=Zgn (cO L.n p1.2 s (et va) kind);unfold JY JX;rw[hp2]at HP2|-;obtain⟨⟨a1,tr1⟩,U1⟩:=p1;obtain⟨⟨a2,tr2⟩,U2⟩:=p2;simp only at HP1 HP2|-;refine Zfn func312 ntmps312 hi ?_;refine Z_2 ?_;refine ZO λb6=>?_;refine ZA ?_;refine ZN λb11=>?_
 refine ng ?_;refine cy rfl (bY) (Z_8 ?_);refine ZcM (uF bu bb L U) (λw hi hin=>HP1 w hin) ?_;refine Z_3 ?_;refine ZN λb13=>?_
 refine ZA ?_;refine eT (cZ (vs:=tr1.cells) Zrf rfl rfl (mQ rfl) Za o6) ?_;rintro _ _ ⟨rfl,rfl⟩;refine mZ ?_ ?_<;>intro hc4
 .rw[hc4];simp only[ai];refine Zs (bU (Zdn [2]) Zk ?_);refine Md 49 1 (Qv ?_);refine Z_3 ?_;exact QC
 rw[hc4];refine iB ?_;refine Z_5 ?_;refine Zy (jm (Zv rfl) (Zv rfl) Wq1 (show _=((va%64:Nat):Int)from by grind)) ?_;refine lD ?_;refine Zy (i5 (Zv rfl) (Zv rfl) (show IntKind.i64.wrap _=((64 - va%64:Nat):Int) by rw[bD _ ⟨by omega,by omega⟩];omega)) ?_;refine Z_7 ?_;refine Zy (jm (Zv rfl) (Zv rfl) Wq1 (show _=((va%64:Nat):Int)from by grind)) ?_;refine Ey ?_;refine Zy (eK (Zv rfl) (Zv rfl) (show IntKind.u32.wrap (IntKind.u32.wrap _+64)=((et va:Nat):Int) by rw[aG,aG];unfold et;omega)) ?_;refine Z_4 ?_;refine cL (λq:Int×Mmu×Tr=>[(2,.w va),(3,.i k),(11,.p b11),(12,.w a1),(13,.p b13),(14,.i ((64 - va%64:Nat):Int)),(15,.w (et va:Nat)),(16,.w q.1)]) (λq=>uF bu bb L q.2.1++[trC b11 Tr.none,trC b13 q.2.2]) (λq=>(bif decide (((64 - va%64:Nat):Int)<(k:Int))then bif tr2.Wg !=0 then((([]:Li),tr2),U2)else fK a1 a2 va k tr2 U2 else fK a1 0 va k tr1 U1)=fK a1 q.1 va k q.2.2 q.2.1) ?_ ?_
 .refine Zw7 ?_ ?_<;>intro hc8
  .have hsm:(bif decide (((64 - va%64:Nat):Int)<(k:Int))then bif tr2.Wg !=0 then((([]:Li),tr2),U2)else fK a1 a2 va k tr2 U2 else fK a1 0 va k tr1 U1)=bif tr2.Wg !=0 then((([]:Li),tr2),U2)else fK a1 a2 va k tr2 U2:=by rw[hc8];rfl
   refine Z_6 ?_;refine ZcM (uF bu bb L U1) (λw hi hin=>HP2 w hin) ?_;refine Z_4 ?_;refine eT (cZ (vs:=tr2.cells) Zrf rfl rfl (mQ rfl) Za o6) ?_;rintro _ _ ⟨rfl,rfl⟩;refine Zw9 ?_ ?_<;>intro hc10
   .rw[hsm,hc10];simp only[ai];refine Zs (bU (Zdn [2]) Zk ?_);refine Md 49 1 (Qv ?_);refine Z_3 ?_;exact QC
   refine Zc (qMP ((a2,U2,tr2)) bY)
  have hsm:(bif decide (((64 - va%64:Nat):Int)<(k:Int))then bif tr2.Wg !=0 then((([]:Li),tr2),U2)else fK a1 a2 va k tr2 U2 else fK a1 0 va k tr1 U1)=fK a1 0 va k tr1 U1:=by rw[hc8];rfl
  refine Zc (qMP ((0,U1,tr1)) hsm)
 rintro⟨a2',U',tr'⟩ hq;dsimp only at hq;rw[hq];dsimp only;unfold fK;refine Z_5 ?_;refine ZSe (λw hi=>wP a1 w) ?_;refine Zw3 ?_ ?_<;>intro hc12
 .rw[hc12];simp only[ai];refine Z_2 ?_;refine cY 49 1 (Z_3 ?_);refine mR ?_;exact QC
 rw[hc12];refine iB ?_;refine Z_7 ?_;refine dE (bS rfl rfl) (.cons (cA rfl) .nil) (λ_ _=>rfl) (λhg w hi=>wP a2' w) rfl (Z_4 ?_);refine ZW ?_ ?_<;>intro hc14
 .rw[hc14];simp only[ai];refine Z_2 ?_;refine cY 49 1 (Z_3 ?_);refine mR ?_;exact QC
 rw[hc14];refine iB ?_;refine Z_5 ?_;refine cY 49 1 (gq ?_);refine wLo (λq:Nat×Option Addr×Nat=>[(11,.p b11),(12,.w a1),(13,.p b13),(14,.i ((64 - va%64:Nat):Int)),(16,.w a2'),(17,.slice q.2.1 (pw a1 a2' va q.1).length q.2.2),(78,.i k),(79,.i (q.1:Int))]) (λq=>uF bu bb L U'++[trC b11 Tr.none,trC b13 tr',sl .u32 49 q.2.1 (pw a1 a2' va q.1).length q.2.2 (pw a1 a2' va q.1)]) (λq=>q.1<=k) (λq=>k - q.1) ((0,none,0)) Wq1 ?_;rintro⟨j,A1,c1⟩ hj;simp only at hj;dsimp only;refine Zw6 ?_ ?_<;>intro hc18
 .simp only[ac]at hc18;have hle:=CH a1 a2' va j;refine ue ?_;refine ZW ?_ ?_<;>intro hc20
  .simp only[ac]at hc20;have he:mT a1 a2' va j=IntKind.u32.wrap (a1+(j:Int)):=by(unfold mT;grind)
   refine Z_4 ?_;refine oq ?_;refine Zy (eK (Zv rfl) (Zv rfl) (show IntKind.u32.wrap (a1+IntKind.u32.wrap (j:Int))=mT a1 a2' va j by rw[he,u32_wrap_id (j:Int) Wq1 Wq1])) ?_;refine jD ?_;rintro _ _ ⟨b90,rfl,rfl⟩;refine fo (bV (e:=49) (sz:=1) (bytes:=4) rfl rfl Za rfl rfl (λw hi=>hi.rd (Zhc (slv 49 1 (sA b90) 1 1 [.w (mT a1 a2' va j)]))) (mQ rfl) Wq9 Wq1) rfl ?_;rintro _ _ ⟨A2,c2,rfl,rfl⟩;refine Wq267 ?_;refine qMM ((j+1,A2,c2)) ⟨by show j+1<=k;omega,by show k - (j+1)<k - j;omega⟩
  simp only[aa]at hc20;have he:mT a1 a2' va j=IntKind.u32.wrap (a2'+((j - (64 - va%64):Nat):Int)):=by(unfold mT;grind)
  refine Z_5 ?_;refine Zy (i5 (Zv rfl) (Zv rfl) (show IntKind.i64.wrap ((j:Int) - ((64 - va%64:Nat):Int))=((j - (64 - va%64):Nat):Int) by rw[bD _ ⟨by omega,by omega⟩];omega)) ?_;refine oq ?_;refine Zy (eK (Zv rfl) (Zv rfl) (show IntKind.u32.wrap (a2'+IntKind.u32.wrap ((j - (64 - va%64):Nat):Int))=mT a1 a2' va j by rw[he,u32_wrap_id (((j - (64 - va%64):Nat):Int)) Wq1 Wq1])) ?_;refine jD ?_;rintro _ _ ⟨b99,rfl,rfl⟩;refine fo (bV (e:=49) (sz:=1) (bytes:=4) rfl rfl Za rfl rfl (λw hi=>hi.rd (Zhc (slv 49 1 (sA b99) 1 1 [.w (mT a1 a2' va j)]))) (mQ rfl) Wq9 Wq1) rfl ?_;rintro _ _ ⟨A2,c2,rfl,rfl⟩;refine Wq267 ?_;refine qMM ((j+1,A2,c2)) ⟨by show j+1<=k;omega,by show k - (j+1)<k - j;omega⟩
 simp only[aa]at hc18;obtain rfl:j=k:=by omega
 refine Z_6 ?_;refine bU (Zdn [3]) Zk (UF ?_);refine jU ?_;exact QC
theorem Q2(bu bb:Nat)(L:eB)(U:Mmu)(hT:U.t.length=16)(s:Sp)(hr:s.root<=4294967295)(va k:Nat)(hva:va<=4294967295)(hk1:1<=k)(hk4:k<=4):CI prog 288 [.p bu,s.v,.w va,.i k] (uF bu bb L U) (λv cs=>v= .tuple #[.w (qG L.n U s va k).1.1,(qG L.n U s va k).1.2.v]/\cs=uF bu bb L (qG L.n U s va k).2):=λw hi=>by
 obtain⟨n1,n64,_⟩:=nc (hi.ok (fw L U.m) cP);have HS:=MV bu bb L U hT s hr va k hva hk1 hk4 2;have hin0:=CG (n:=L.n) (U:=U) (s:=s) (va:=va) (k:=k) n64 hva (kind:=2) hk4;have hlen0:=rG (n:=L.n) (U:=U) (s:=s) (va:=va) (k:=k) (kind:=2);unfold qG;obtain⟨sp,hsp⟩:=Zgn (eX L.n U s va k 2);rw[hsp]at HS hin0 hlen0|-;obtain⟨⟨l,tr⟩,U'⟩:=sp;simp only at HS hin0 hlen0|-;refine Zfn func288 ntmps288 hi ?_;refine Z_2 ?_;refine ZO λb5=>?_;refine ZA ?_;refine ZN λb9=>?_
 refine Z_8 ?_;refine dy (uF bu bb L U) (λw hi hin=>HS w hin) ?_;rintro _ _ ⟨A1,c1,rfl,rfl⟩;refine Z_3 ?_;refine ZN λb11=>?_
 refine Wq457 ?_;rintro _ _ ⟨rfl,rfl⟩;refine Z_4 ?_;refine dU (λw hi=>nc (hi.get (Zhc (fw L U'.m)))) (λhmm=>?_);obtain⟨_,_,hdl,hdb,_⟩:=hmm;refine Z_6 ?_;have e0:ge U'.m.data (l.drop l.length)=0:=by(rw[List.drop_length];rfl)
 refine Z_2 ?_;refine pd ?_;refine Z_4 ?_;refine wLo (λj:Nat=>[(0,.p bu),(9,.p b9),(10,.slice A1 l.length c1),(11,.p b11),(12,.w (ge U'.m.data (l.drop j))),(13,.i ((j:Int) - 1))]) (λ_=>uF bu bb L U'++[sl .u32 49 A1 l.length c1 l,trC b9 Tr.none,trC b11 tr]) (λj=>j<=l.length) (λj=>j) (l.length) Wq1 ?_;rintro j hj;refine Zw7 ?_ ?_<;>intro hc4
 .simp only[ac]at hc4;obtain⟨i,rfl⟩:∃i,j=i+1:=⟨j - 1,by omega⟩;have hil:i<l.length:=by omega
  have hrange:=hin0 _ (List.getElem_mem hil);refine lp (λw hi=>eM (hi.get (Zhc (sl .u32 49 A1 l.length c1 l))) Wq1) ?_;rintro⟨ba,rfl⟩;obtain⟨an,han⟩:=ao hrange.1;refine Z_5 ?_;refine uf ?_;refine ZFe 2 0 ?_;refine Ca ?_;refine Zy4 6 rfl (cw (j:=i) (sz:=1) (r:=i) rfl Zrf (Zv rfl) (Zv rfl) Wq2 Wq2 Wq1) ?_;refine Zy5 7 rfl (bM Zrf (Zv rfl)) (dG Zh (show(ints .u32 l)[i]? =some (.w (an:Int))from by rw[<-han];exact mE hil)) ?_;refine ig ?_;refine ZTn (λw hi=>RM L U'.m an Wq1 w (hi.get Zh)) ?_;rintro _ _ ⟨rfl,rfl⟩;refine un ?_;refine ZE 12 ?_;refine ZE 13 ?_;refine jU ?_;have hg:=kJ hdb an;have hst:=AW hdb (show l.length<=4 by omega) hil;rw[han]at hst;refine ZA ?_;refine Lm ?_;refine ZA ?_;refine Zy (cU rfl rfl (Zv rfl) QO) ?_;refine Zy (Ci Zv0 Zv0 hst) ?_;refine Z_6 ?_;refine pd ?_;refine Z_2 ?_;refine qMP (i) Wq1
 simp only[aa]at hc4;obtain rfl:j=0:=by omega
 rw[List.drop_zero];refine Z_6 ?_;refine bU (Zdn [3]) Zk (UF ?_);refine jU ?_;exact bO (uF bu bb L U'++[trC b9 tr]) Zj Uj
theorem Mh(bu bb:Nat)(L:eB)(U:Mmu)(hT:U.t.length=16)(s:Sp)(hr:s.root<=4294967295)(va k:Nat)(v:Int)(hva:va<=4294967295)(hk1:1<=k)(hk4:k<=4):CI prog 286 [.p bu,s.v,.w va,.w v,.i k] (uF bu bb L U) (λx cs=>x=(pt L.n U s va k v).1.v/\cs=uF bu bb L (pt L.n U s va k v).2):=λw hi=>by
 obtain⟨n1,n64,_⟩:=nc (hi.ok (fw L U.m) cP);have HS:=MV bu bb L U hT s hr va k hva hk1 hk4 3;have hin0:=CG (n:=L.n) (U:=U) (s:=s) (va:=va) (k:=k) n64 hva (kind:=3) hk4;have hlen0:=rG (n:=L.n) (U:=U) (s:=s) (va:=va) (k:=k) (kind:=3);unfold pt;obtain⟨sp,hsp⟩:=Zgn (eX L.n U s va k 3);rw[hsp]at HS hin0 hlen0|-;obtain⟨⟨l,tr⟩,U'⟩:=sp;simp only at HS hin0 hlen0|-;refine Zfn func286 ntmps286 hi ?_;refine Z_2 ?_;refine ZO λb6=>?_;refine ZN λb10=>?_
 refine Z_8 ?_;refine dy (uF bu bb L U) (λw hi hin=>HS w hin) ?_;rintro _ _ ⟨A1,c1,rfl,rfl⟩;refine Z_3 ?_;refine ZN λb12=>?_
 refine Wq457 ?_;rintro _ _ ⟨rfl,rfl⟩;refine gq ?_;refine wLo (λj:Nat=>[(0,.p bu),(3,.w v),(10,.p b10),(12,.p b12),(23,.slice A1 l.length c1),(24,.i l.length),(25,.i (j:Int))]) (λj=>uF bu bb L ⟨WM U'.m l v j,U'.t⟩++[sl .u32 49 A1 l.length c1 l,trC b10 Tr.none,trC b12 tr]) (λj=>j<=l.length) (λj=>l.length - j) (0) Wq1 ?_;rintro j hj;refine Zw6 ?_ ?_<;>intro hc3
 .simp only[ac]at hc3;have hil:j<l.length:=by omega
  have hrange:=hin0 _ (List.getElem_mem hil);refine lp (λw hi=>eM (hi.get (Zhc (sl .u32 49 A1 l.length c1 l))) Wq1) ?_;rintro⟨ba,rfl⟩;obtain⟨an,han⟩:=ao hrange.1;have hgd:(l.getD j 0).toNat=an:=by(grind)
  refine Z_7 ?_;refine Zy (cw (j:=j) (sz:=1) (r:=j) rfl Zrf (Zv rfl) (Zv rfl) Wq2 Wq2 Wq1) ?_;refine dQ (bM Zrf (Zv rfl)) (dG Zh (show(ints .u32 l)[j]? =some (.w (an:Int))from by rw[<-han];exact mE hil)) rfl (Z_4 ?_);refine bU (Zdn [10]) Zk (uj ?_);refine pQ ?_;refine kU ?_;refine Zy4 7 rfl (jF Zv0 Zv0 rfl) ?_;refine Zy4 8 rfl (lJ (Zv rfl) (Zv rfl) (by rw[bD _ ⟨by omega,by omega⟩];omega) rfl) ?_;refine Zy4 9 rfl (cU rfl rfl (Zv rfl) (E4 v (show j<4 by omega))) ?_;refine mb ?_;refine tD ([fw L (WM U'.m l v j)]) (λw hi hin=>AB L (WM U'.m l v j) an Wq1 (vc v j) (p8 v j) w hin) ?_;rintro _ _ ⟨rfl,rfl⟩;refine dR ?_;refine Z_3 ?_;refine Wq6 ?_;refine yS (j+1) ?_ ?_ ?_
  .omega
  .exact Zwk
  exact(show EL _ _ from by rw[show WM U'.m l v (j+1)=(WM U'.m l v j).put an (vc v j) by rw[WM,hgd]];exact Zj)
 simp only[aa]at hc3;obtain rfl:j=l.length:=by omega
 refine Z_8 ?_;refine iC ?_;exact bO (uF bu bb L ⟨WM U'.m l v l.length,U'.t⟩++[trC b10 tr]) Zj (m8 (cs':=[row _ _ _,exC _ _ _ _,row _ _ _]) (.inl rfl) Zu rfl rfl Zh Zrf Zrf gr)
end
end Go.Ink
