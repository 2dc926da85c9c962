/- Lemmas. -/
import Derived.Test.YtbkgmdgackknfaaGreatDoorPae
import Derived.Lib.EndianBits
set_option linter.unusedSimpArgs false
set_option linter.unusedVariables false
set_option maxRecDepth 100000
set_option maxHeartbeats 4000000
namespace Go.Ink
open Go.RowKit Go.Proofs.Tryz
def jA(l:List Bool):List Value:=l.map Value.bool
theorem lO(l:List Bool):(jA l).length=l.length:=by simp[jA]
theorem Gl{l:List Bool}{j:Nat}{b:Bool}(h:l[j]? =some b):(jA l)[j]? =some (.bool b):=by simp[jA,h]
theorem CL(l:List Bool)(j:Nat)(b:Bool):(jA l).set j (.bool b)=jA (l.set j b):=by simp[jA]
theorem fR{k:IntKind}(xs:List Int)(j:Nat)(v:Int):(ints k xs).set j (.int k v)=ints k (xs.set j v):=by simp[ints]
def cZ(B ow pr:List Int):List Value:=ints .u8 B++(ints .i64 ow++ints .i64 pr)
structure dg(B ow pr:List Int):Prop where
 b:B.length=16384
 ow:ow.length=256
 pr:pr.length=4
section
variable {B ow pr:List Int}
theorem iN(h:dg B ow pr):(cZ B ow pr).length=16644:=by
 simp[cZ,de,h.b,h.ow,h.pr]
theorem pool_B{i:Nat}{v:Int}(h:B[i]? =some v):(cZ B ow pr)[i]? =some (.int .u8 v):=by
 grind [cZ,de,cq]
theorem rL(hl:dg B ow pr){i:Nat}{v:Int}(h:ow[i]? =some v):(cZ B ow pr)[16384+i]? =some (.i v):=by
 grind [cZ,de,hl.b,cq]
theorem DK(hl:dg B ow pr){i:Nat}{v:Int}(h:pr[i]? =some v):(cZ B ow pr)[16640+i]? =some (.i v):=by
 grind [cZ,de,hl.b,hl.ow,cq]
theorem Ko{i:Nat}(hi:i<B.length)(v:Int):(cZ B ow pr).set i (.int .u8 v)=cZ (B.set i v) ow pr:=by
 grind [cZ,de,fR]
theorem rK(hl:dg B ow pr){i:Nat}(hi:i<256)(v:Int):(cZ B ow pr).set (16384+i) (.i v)=cZ B (ow.set i v) pr:=by
 grind [cZ,de,hl.b,hl.ow,fR]
theorem rJ(hl:dg B ow pr){i:Nat}(v:Int):(cZ B ow pr).set (16640+i) (.i v)=cZ B ow (pr.set i v):=by
 grind [cZ,de,hl.b,hl.ow,fR]
def eI(B:List Int)(f:Nat):List Int:=B.take (f*64)++List.replicate 64 0++B.drop (f*64+64)
theorem Kn(hl:dg B ow pr){f:Nat}(hf:f<256):(cZ B ow pr).take (f*64)++List.replicate 64 (Value.int .u8 0)++(cZ B ow pr).drop (f*64+64)=cZ (eI B f) ow pr:=by
 unfold cZ eI;have h1:f*64<=(ints .u8 B).length:=by rw[de,hl.b];omega
 have h2:f*64+64<=(ints .u8 B).length:=by rw[de,hl.b];omega
 rw[List.take_append_of_le_length h1,List.drop_append_of_le_length h2,<-aw _ _ (ints .i64 ow++ints .i64 pr)];simp[ints]
theorem yD(hB:B.length=16384){f:Nat}(hf:f<256):(eI B f).length=16384:=by
 grind [eI]
theorem AW(hB:B.length=16384){f j:Nat}(hf:f<256)(hj:j<64):(eI B f)[f*64+j]? =some 0:=by
 grind [eI]
theorem pZ(hB:B.length=16384){f i:Nat}(hf:f<256)(hi:i<f*64\/f*64+64<=i):(eI B f)[i]? =B[i]? :=by
 unfold eI;rcases hi with hi|hi
 .grind
 rw[List.getElem?_append_right bR,List.getElem?_drop]
 grind
end
def cI(ow:List Int)(o:Int)(k:Nat):List Int:=((List.range k).filter (λf=>ow[f]? ==some o)).map (λf:Nat=>(f:Int))
theorem vT(ow:List Int)(o:Int)(k:Nat):cI ow o (k+1)=cI ow o k++(bif ow[k]? ==some o then[(k:Int)]else[]):=by
 grind [cI,List.range_succ]
theorem LH(ow:List Int)(o:Int)(k:Nat):(cI ow o k).length<=k:=by
 grind [cI]
section
attribute [local irreducible] OpY bH
abbrev cV(bp:Nat)(B ow pr:List Int):bC:=row bp (cZ B ow pr) 117
theorem fis_ok(n:Int)(w:World):Ctr prog 91 [.i n] w [] (λv cs=>v= .bool (decide (0<=n)&&decide (n<4))/\cs=[]):=by
 refine Zfs func91 ntmps91 ?_;refine AG ?_;exact pM
theorem F2(n:Int)(w:World):Ctr prog 127 [.i n] w [] (λv cs=>v= .bool (decide (16<=n)&&decide (n<256))/\cs=[]):=by
 refine Zfs func127 ntmps127 ?_;refine AG ?_;exact pM
theorem OC(bp:Nat)(B ow pr:List Int)(hl:dg B ow pr)(f:Nat)(o:Int)(h1:16<=f)(h2:f<256)(h3:ow[f]? =some o)(h4:o≠ -1)(w:World)(hp:(cV bp B ow pr).ok w):
  Ctr prog 146 [.p bp,.i f] w [] (λv cs=>v= .tuple #[.i o,.bool true]/\cs=[]):=by
 refine Zfs func146 ntmps146 ?_;refine fB ?_;refine ZSe (λw hi=>F2 f w) ?_;rw[ay (show(16:Int)<=f by omega),ay (show(f:Int)<256 by omega)];refine Z_5 ?_;refine ZFb 16384 ?_;refine Zyn rfl rfl (dE (j:=f) (sz:=1) (r:=16384+f) rfl Zrf (bU rfl) (bU rfl) Wq2 Wq2 Wq1) ?_;refine fN (bE rfl rfl) (bF Zrf (bU rfl)) (dc hp (rL hl h3)) rfl (Z_4 ?_);refine cJ rfl ((show(_||(o== -1))=false from by grind)) (Z_7 ?_);refine ZFa 16384 ?_;refine Zy (dE (j:=f) (sz:=1) (r:=16384+f) rfl Zrf (Zv rfl) (Zv rfl) Wq2 Wq2 Wq1) ?_;refine dK (bF Zrf Zv0) (dc hp (rL hl h3)) rfl (Z_5 ?_);exact lQ
theorem LD(bp:Nat)(B ow pr:List Int)(hl:dg B ow pr)(f a:Nat)(o:Int)(h1:16<=f)(h2:f<256)(h3:ow[f]? =some o)(h4:o≠ -1)(h5:a<64)(w:World)(hp:(cV bp B ow pr).ok w):
  Ctr prog 126 [.p bp,.i f,.i a] w [] (λv cs=>v= .bool true/\cs=[]):=by
 refine Zfs func126 ntmps126 ?_;refine Z_9 ?_;refine ZSe (λw hi=>OC bp B ow pr hl f o h1 h2 h3 h4 w (bC.old hp hi)) ?_;refine kX ?_;refine Z_2 ?_;refine Zra ?_;rw[ay (show(0:Int)<=a by omega),ay (show(a:Int)<64 by omega)];exact fy
theorem OB(bp:Nat)(B ow pr:List Int)(hl:dg B ow pr)(f a:Nat)(o b:Int)(h1:16<=f)(h2:f<256)(h3:ow[f]? =some o)(h4:o≠ -1)(h5:a<64)(h6:B[f*64+a]? =some b)(w:World)(hp:(cV bp B ow pr).ok w):
  Ctr prog 111 [.p bp,.i f,.i a] w [] (λv cs=>v= .tuple #[.int .u8 b,.bool true]/\cs=[]):=by
 refine Zfs func111 ntmps111 ?_;refine fD ?_;refine ZSe (λw hi=>LD bp B ow pr hl f a o h1 h2 h3 h4 h5 w (bC.old hp hi)) ?_;refine ji ?_;refine Z_9 ?_;refine Zy (dE (j:=f) (sz:=64) (r:=f*64) rfl Zrf (Zv rfl) (Zv rfl) Wq2 Wq2 Wq1) ?_;refine Zy (dE (j:=a) (sz:=1) (r:=f*64+a) rfl Zrf (Zv rfl) (Zv rfl) Wq2 Wq2 Wq1) ?_;refine dK (bF Zrf Zv0) (dc hp (pool_B h6)) rfl (Z_5 ?_);exact lQ
theorem Kg(bp:Nat)(B ow pr:List Int)(hl:dg B ow pr)(f a:Nat)(o b:Int)(h1:16<=f)(h2:f<256)(h3:ow[f]? =some o)(h4:o≠ -1)(h5:a<64)(w:World)(hi:Inv w (bD [cV bp B ow pr]) [cV bp B ow pr] w):
  Ctr prog 105 [.p bp,.i f,.i a,.int .u8 b] w [cV bp B ow pr] (λv cs=>v= .bool true/\cs=[cV bp (B.set (f*64+a) b) ow pr]):=by
 have hb:=hl.b;refine Zfn func105 ntmps105 hi ?_;refine gK ?_;refine ZSe (λw hi=>LD bp B ow pr hl f a o h1 h2 h3 h4 h5 w (hi.get Zh)) ?_;refine ji ?_;refine fB ?_;refine Zy (dE (j:=f) (sz:=64) (r:=f*64) rfl Zrf (Zv rfl) (Zv rfl) Wq2 Wq2 Wq1) ?_;refine Zy (dE (j:=a) (sz:=1) (r:=f*64+a) rfl Zrf (Zv rfl) (Zv rfl) Wq2 Wq2 Wq1) ?_;refine Qt ?_;rintro _ _ ⟨rfl,rfl⟩;rw[Ko Wq1];refine Z_8 ?_;exact AI
theorem Ej(bp:Nat)(B ow pr:List Int)(hl:dg B ow pr)(o:Nat)(ho:o<4)(w:World)(hp:(cV bp B ow pr).ok w):
  Ctr prog 68 [.p bp,.i o] w [] (λv cs=>∃A c,v= .slice A (cI ow o 256).length c/\cs=[sl .i64 3 A (cI ow o 256).length c (cI ow o 256)]):=by
 refine Zfs func68 ntmps68 ?_;refine iT ?_;refine Wq85 ?_;refine ji ?_;refine Z_5 ?_;refine cT 3 1 (Z_4 ?_);refine bN (λs:Nat×Option Addr×Nat=>[(0,.p bp),(1,.i o),(5,.slice s.2.1 (cI ow o s.1).length s.2.2),(11,.i s.1)]) (λs=>[sl .i64 3 s.2.1 (cI ow o s.1).length s.2.2 (cI ow o s.1)]) (λs=>s.1<=256) (λs=>256 - s.1) ((0,none,0)) ?_ ?_ ?_ ?_
 .omega
 .exact Zwk
 .exact Zu
 rintro⟨k,A1,c1⟩ hk;simp only at hk;dsimp only;refine Zw6 ?_ ?_<;>intro hc5
 .simp only[ae]at hc5;have hkl:k<ow.length:=by(rw[hl.ow];omega)
  have hok:ow[k]? =some (ow[k]'hkl):=aa hkl;have hle:=LH ow o k;refine sx ?_;refine Wq329 ?_;refine dK (bF Zrf Zv0) (dc hp (rL hl hok)) rfl (Z_4 ?_);refine ZW ?_ ?_<;>intro hc7
  .have he:cI ow o (k+1)=cI ow o k++[(k:Int)]:=by(rw[vT,hok];grind)
   refine Z_3 ?_;refine kY ?_;rintro _ _ ⟨b24,rfl,rfl⟩;refine fW (cj (e:=3) (sz:=1) (bytes:=8) rfl rfl Za rfl rfl (λw hi=>hi.rd Zh) (mO rfl) gq Wq1) rfl ?_;rintro _ _ ⟨A2,c2,rfl,rfl⟩;rw[show(cI ow o k).length+1=(cI ow o (k+1)).length by grind,show ints .i64 (cI ow o k)++[Value.i (k:Int)]=ints .i64 (cI ow o (k+1)) by(rw[he];exact bX _ [_])];refine gv ?_;refine dM ((k+1,A2,c2)) ?_ ?_ ?_
   .omega
   .exact Zwk
   exact Zu
  have he:cI ow o (k+1)=cI ow o k:=by(rw[vT,hok,show(some (ow[k]'hkl)==some (o:Int))=false from hc7];simp)
  rw[<-he];refine gh ?_;refine dM ((k+1,A1,c1)) ?_ ?_ ?_
  .omega
  .exact Zwk
  exact Zu
 simp only[ac]at hc5;obtain rfl:k=256:=by omega
 refine fD ?_;exact IC
theorem take_ok(bp:Nat)(B ow pr:List Int)(hl:dg B ow pr)(o:Nat)(ho:o<4)(n:Int)(hn:pr[o]? =some n)(hlt:((cI ow o 256).length:Int)<n)(f0:Nat)(h16:16<=f0)(h256:f0<256)(hf0:ow[f0]? =some (-1))(w:World)(hi:Inv w (bD [cV bp B ow pr]) [cV bp B ow pr] w):
  Ctr prog 125 [.p bp,.i o] w [cV bp B ow pr] (λv cs=>∃f:Nat,16<=f/\f<256/\ow[f]? =some (-1)/\v= .tuple #[.i f,.i 0]/\cs=[cV bp (eI B f) (ow.set f o) pr]):=by
 have hb:=hl.b;have how:=hl.ow;refine Zfn func125 ntmps125 hi ?_;refine gK ?_;refine Wq85 ?_;refine Z_4 ?_;refine iU ?_;refine Zs (bL ⟨λj=>List.elem j [],[]⟩ Zk ?_);refine lU ?_;refine ZE 4 ?_;refine mE ?_;refine ZFe 7 16640 ?_;refine Zy4 8 rfl (dE (j:=o) (sz:=1) (r:=16640+o) rfl Zrf (Zv rfl) (Zv rfl) (λ_=>by omega) (λ_=>by omega) (by omega)) ?_;refine Zy5 9 rfl (bF Zrf Zv0) (cN Zh (DK hl hn)) ?_;refine cn 2 Zk (ZTn (λw hi=>Ej bp B ow pr hl o ho w (hi.get Zh)) ?_);rintro _ _ ⟨A1,c1,rfl,rfl⟩;refine ZE 3 ?_;refine ZE 10 ?_;refine ZE 11 ?_;refine eQ ?_;refine Zt (cJ rfl ((ar (by omega))) ?_);refine fB ?_;refine bN (λk:Nat=>[(0,.p bp),(1,.i o),(6,.i (k:Int))]) (λ_=>[cV bp B ow pr]) (λk=>16<=k/\k<=f0) (λk=>f0 - k) (16) ?_ ?_ ?_ ?_
 .omega
 .exact Zwk
 .exact Zu
 rintro k ⟨hk1,hk2⟩;refine Zw7 ?_ ?_<;>intro hc6
 .have hkl:k<ow.length:=by omega
  have hok:ow[k]? =some (ow[k]'hkl):=aa hkl;refine Z_9 ?_;refine ZFa 16384 ?_;refine Zy (dE (j:=k) (sz:=1) (r:=16384+k) rfl Zrf (Zv rfl) (Zv rfl) (λ_=>by omega) (λ_=>by omega) (by omega)) ?_;refine dK (bF Zrf Zv0) (cN Zh (rL hl hok)) rfl (Zw3 ?_ ?_)<;>intro hc8
  .have h2:ow[k]'hkl= -1:=bR;rw[h2]at hok;refine Z_6 ?_;refine ZFa 16384 ?_;refine Zy (dE (j:=k) (sz:=1) (r:=16384+k) rfl Zrf (Zv rfl) (Zv rfl) (λ_=>by omega) (λ_=>by omega) (by omega)) ?_;refine Qt ?_;rintro _ _ ⟨rfl,rfl⟩;rw[rK hl (show k<256 by omega)];have hl':dg B (ow.set k o) pr:=⟨hl.b,by grind,hl.pr⟩;refine Z_6 ?_;refine Zy (iF (vs:=List.replicate 64 (Value.int .u8 0)) Zk (.inr ⟨_,_,_,rfl,λ_=>rfl⟩)) ?_;refine Z_2 ?_;refine Zy (dE (j:=k) (sz:=64) (r:=k*64) rfl Zrf (Zv rfl) (Zv rfl) (λ_=>by omega) (λ_=>by omega) (by omega)) ?_;refine eE (ki (n:=64) Zrf rfl rfl (λu hu=>by rw[List.eq_of_mem_replicate hu];rfl) Za (aE) (by rw[iN hl',aE];omega)) ?_;rintro _ _ ⟨rfl,rfl⟩;rw[aE,Kn hl' (show k<256 by omega)];refine sx ?_;exact xH (cs':=[row _ _ _]) (.inl rfl) Zu rfl rfl rfl ⟨k,hk1,by omega,hok,rfl,rfl⟩
  have h2:ow[k]'hkl≠ -1:=bR;have hne:k≠f0:=by(grind)
  refine gv ?_;refine dM (k+1) ?_ ?_ ?_
  .omega
  .exact Zwk
  exact Zu
 grind
theorem zu{α:Type}{n k:Nat}(a b:α)(h:k<n):(List.replicate k a++List.replicate (n - k) b).set k a=List.replicate (k+1) a++List.replicate (n - (k+1)) b:=by
 rw[List.set_append_right _ _ cH,aE,Nat.sub_self,show n - k=(n - (k+1))+1 by omega,List.replicate_succ,List.set_cons_zero,List.replicate_succ',aw]
 rfl
theorem DH{α:Type}(n:Nat)(a b:α):List.replicate n a++List.replicate (n - n) b=List.replicate n a:=by simp
theorem tU{α:Type}(n:Nat)(a b:α):List.replicate 0 a++List.replicate (n - 0) b=List.replicate n b:=by simp
theorem rG(k:IntKind)(n:Nat)(a:Int):List.replicate n (Value.int k a)=ints k (List.replicate n a):=by simp[ints]
theorem tV(n:Nat)(a:Bool):List.replicate n (Value.bool a)=jA (List.replicate n a):=by simp[jA]
theorem Fu{B ow pr:List Int}(hl:dg B ow pr):((cZ B ow pr).drop 16640).take (ints .i64 pr).length=ints .i64 pr:=by
 grind [cZ,de,hl.b,hl.ow,ints,List.append_assoc,List.drop_append,List.drop_eq_nil_of_le,List.take_length]
def fY(pr:List Int)(k:Nat):Int:=(pr.take k).foldl (λs x=>s+(if 0>x then 0 else x)) 0
theorem nV{pr:List Int}{k:Nat}(h:k<pr.length):fY pr (k+1)=fY pr k+(if 0>pr[k]'h then 0 else pr[k]'h):=by
 grind [fY,List.take_succ_eq_append_getElem]
theorem L3(w:World):Ctr prog 35 [] w [] (λv cs=>∃bp,v= .p bp/\cs=[cV bp (List.replicate 16384 0) (List.replicate 256 (-1)) (List.replicate 4 (-1))]):=by
 have hl1:∀k,k<=256->dg (List.replicate 16384 0) (List.replicate k (-1)++List.replicate (256 - k) 0) (List.replicate 4 0):=λk hk=>⟨aE,by simp;omega,rfl⟩
 have hl2:∀k,k<=4->dg (List.replicate 16384 0) (List.replicate 256 (-1)) (List.replicate k (-1)++List.replicate (4 - k) 0):=λk hk=>⟨aE,aE,by simp;omega⟩
 refine Zfs func35 ntmps35 ?_;refine Z_7 ?_;refine Zy (iF (vs:=cZ (List.replicate 16384 0) (List.replicate 256 0) (List.replicate 4 0)) Zk (.inl ⟨_,rfl,rfl⟩)) ?_;refine ZO λb5=>?_
 rw[<-tU 256 (-1:Int) 0];refine fB ?_;refine bN (λk:Nat=>[(1,.p b5),(6,.i (k:Int))]) (λk=>[cV b5 (List.replicate 16384 0) (List.replicate k (-1)++List.replicate (256 - k) 0) (List.replicate 4 0)]) (λk=>k<=256) (λk=>256 - k) (0) ?_ ?_ ?_ ?_
 .omega
 .exact Zwk
 .exact Zu
 rintro k hk;refine Zw6 ?_ ?_<;>intro hc3
 .simp only[ae]at hc3;refine iT ?_;refine Wq329 ?_;refine eE (iL Zrf rfl rfl rfl Za (by rw[iN (hl1 k hk)];omega)) ?_;rintro _ _ ⟨rfl,rfl⟩;rw[rK (hl1 k hk) Wq1,zu _ _ Wq1];refine gh ?_;refine dM (k+1) ?_ ?_ ?_
  .omega
  .exact Zwk
  exact Zu
 simp only[ac]at hc3;obtain rfl:k=256:=by omega
 refine Z_8 ?_;rw[DH,<-tU 4 (-1:Int) 0];refine Z_4 ?_;refine bN (λk:Nat=>[(1,.p b5),(15,.i (k:Int))]) (λk=>[cV b5 (List.replicate 16384 0) (List.replicate 256 (-1)) (List.replicate k (-1)++List.replicate (4 - k) 0)]) (λk=>k<=4) (λk=>4 - k) (0) ?_ ?_ ?_ ?_
 .omega
 .exact Zwk
 .exact Zu
 rintro k hk;refine Zw6 ?_ ?_<;>intro hc8
 .simp only[ae]at hc8;refine iT ?_;refine ZFa 16640 ?_;refine Zy (dE (j:=k) (sz:=1) (r:=16640+k) rfl Zrf (Zv rfl) (Zv rfl) Wq2 Wq2 Wq1) ?_;refine eE (iL Zrf rfl rfl rfl Za (by rw[iN (hl2 k hk)];omega)) ?_;rintro _ _ ⟨rfl,rfl⟩;rw[rJ (hl2 k hk),zu _ _ Wq1];refine gh ?_;refine dM (k+1) ?_ ?_ ?_
  .omega
  .exact Zwk
  exact Zu
 simp only[ac]at hc8;obtain rfl:k=4:=by omega
 refine Z_7 ?_;rw[DH];refine Z_5 ?_;refine Zrb ([row _ _ _]) ?_;exact⟨_,rfl,rfl⟩
theorem He(bp:Nat)(B ow pr:List Int)(hl:dg B ow pr)(o n:Nat)(ho:o<4)(hn:n<=64)(h1:pr[o]? =some (-1))(hs:(n:Int)+fY pr 4<=240)(hb:∀x,x∈pr->x<=1000)(w:World)(hi:Inv w (bD [cV bp B ow pr]) [cV bp B ow pr] w):
  Ctr prog 77 [.p bp,.i o,.i n] w [cV bp B ow pr] (λv cs=>v= .i 0/\cs=[cV bp B ow (pr.set o n)]):=by
 have hpl:=hl.pr;have hbd:∀k,k<=4->0<=fY pr k/\fY pr k<=1000*(k:Int):=by
  intro k
  induction k with
  |zero=>intro _;exact⟨by simp[fY],by simp[fY]⟩
  |succ k ih=>
   intro hk;have h1:=ih Wq1;have hkl:k<pr.length:=by omega
   have h2:=hb _ (List.getElem_mem hkl);rw[nV hkl];omega
 refine Zfn func77 ntmps77 hi ?_;refine fB ?_;refine Wq85 ?_;refine fD ?_;refine cJ rfl (bR) (Z_5 ?_);refine QE ?_;refine dK (bF Zrf Zv0) (cN Zh (DK hl h1)) rfl (Z_4 ?_);refine iU ?_;refine fD ?_;have e0:fY pr 0=0:=rfl;refine Z_2 ?_;refine ZFa 16640 ?_;refine dK (bP (vs:=ints .i64 pr) Zrf (λw=>by rw[de,hpl];rfl) (Zv rfl)) (cO (o:=16640) Zh (Fu hl)) rfl (Z_4 ?_);refine bN (λk:Nat=>[(0,.p bp),(1,.i o),(2,.i n),(7,.i (n+fY pr k)),(34,.agg (ints .i64 pr).toArray),(35,.i (k:Int))]) (λ_=>[cV bp B ow pr]) (λk=>k<=4) (λk=>4 - k) (0) ?_ ?_ ?_ ?_
 .omega
 .exact Zwk
 .exact Zu
 rintro k hk;refine Zw6 ?_ ?_<;>intro hc7
 .simp only[ae]at hc7;have hkl:k<pr.length:=by omega
  have hbk:=hbd k hk;have hbk2:=hb _ (List.getElem_mem hkl);refine Z_6 ?_;refine Zy (yJ (j:=k) rfl Zrf Zrf (Zv rfl) (Zv rfl) Wq2 Wq2 (λ_=>mm hkl)) ?_;refine Z_6 ?_;refine Zy (wQ Zv0 Zv0 rfl) ?_;refine dK (ef (nH rfl) (nH rfl) (show IntKind.i64.wrap _=n+fY pr (k+1) by rw[nV hkl];refine(IntWalk.i64_in _ ⟨?_,?_⟩).trans Wq1<;>split<;>omega)) (λ_ _=>trivial) rfl ?_;refine gv ?_;refine dM (k+1) ?_ ?_ ?_
  .omega
  .exact Zwk
  exact Zu
 simp only[ac]at hc7;obtain rfl:k=4:=by omega
 refine fD ?_;refine cJ rfl ((ar Wq1)) (Z_8 ?_);refine QE ?_;refine Qt ?_;rintro _ _ ⟨rfl,rfl⟩;rw[rJ hl];refine Z_8 ?_;exact AI
abbrev iy(bt bp:Nat)(o:Nat)(bf bg n:Nat):bC:=row bt [.p bp,.i o,.slice (sA bf) n n,.slice (sA bg) n n] 145
abbrev frC(bf n:Nat)(fr:List Int):bC:=sl .i64 3 (sA bf) n n fr
abbrev gdC(bg n:Nat)(gd:List Bool):bC:=slv 4 1 (sA bg) n n (jA gd)
theorem nnew_ok(bp:Nat)(B ow pr:List Int)(hl:dg B ow pr)(o n:Nat)(ho:o<4)(hn0:1<=n)(hn:n<=64)(h1:pr[o]? =some (-1))(hs:(n:Int)+fY pr 4<=240)(hb:∀x,x∈pr->x<=1000)(w:World)(hi:Inv w (bD [cV bp B ow pr]) [cV bp B ow pr] w):
  Ctr prog 50 [.p bp,.i o,.i n] w [cV bp B ow pr] (λv cs=>∃bt bf bg,v= .tuple #[.p bt,.i 0]/\cs=[cV bp B ow (pr.set o n),iy bt bp o bf bg n,frC bf n (List.replicate n (-1)),gdC bg n (List.replicate n false)]):=by
 refine Zfn func50 ntmps50 hi ?_;refine kX ?_;refine Z_9 ?_;refine cJ rfl (bR) (Z_8 ?_);refine ZcM ([cV bp B ow pr]) (λw hi hin=>He bp B ow pr hl o n ho hn h1 hs hb w hin) ?_;refine Z_9 ?_;refine iU ?_;refine Z_3 ?_;refine Dd ?_;refine ZE 2 ?_;refine ZE 4 ?_;refine ke 3 5 Zk ?_ ?_
 .refine jT rfl rfl (lC (bytes:=8) (n:=n) rfl rfl rfl rfl rfl rfl rfl Wq1 gq) ZJ rfl ?_;rintro _ _ ⟨b39,rfl,rfl⟩;refine cn 5 Zk (jT rfl rfl (lC (bytes:=1) (n:=n) rfl rfl rfl rfl rfl rfl rfl Wq1 gq) ZJ rfl ?_);rintro _ _ ⟨b41,rfl,rfl⟩;refine ZE 6 ?_;refine cn 7 Zk (jT rfl rfl (Du rfl rfl) ZJ rfl ?_);rintro _ _ ⟨b43,rfl,rfl⟩;refine Wq257 ?_;refine Z_9 ?_;refine bN (λk:Nat=>[(9,.p b43),(48,.i n),(49,.i (k:Int))]) (λk=>[cV bp B ow (pr.set o n),iy b43 bp o b39 b41 n,frC b39 n (List.replicate k (-1)++List.replicate (n - k) 0),gdC b41 n (List.replicate n false)]) (λk=>k<=n) (λk=>n - k) (0) ?_ ?_ ?_ ?_
  .exact au _
  .exact Zwk
  .exact Zu
  rintro k hk;refine Zw6 ?_ ?_<;>intro hc8
  .simp only[ae]at hc8;refine sw ?_;refine Wq79 ?_;rintro _ _ ⟨rfl,rfl⟩;rw[fR,zu _ _ Wq1];refine gh ?_;refine dM (k+1) ?_ ?_ ?_
   .exact wH
   .exact Zwk
   exact Zu
  simp only[ac]at hc8;obtain rfl:k=n:=by omega
  exact Wq365
 refine jT rfl rfl (lC (bytes:=1) (n:=n) rfl rfl rfl rfl rfl rfl rfl Wq1 gq) ZJ rfl ?_;rintro _ _ ⟨b41,rfl,rfl⟩;refine cn 3 Zk (jT rfl rfl (lC (bytes:=8) (n:=n) rfl rfl rfl rfl rfl rfl rfl Wq1 gq) ZJ rfl ?_);rintro _ _ ⟨b39,rfl,rfl⟩;refine ZE 6 ?_;refine cn 7 Zk (jT rfl rfl (Du rfl rfl) ZJ rfl ?_);rintro _ _ ⟨b43,rfl,rfl⟩;refine Wq257 ?_;refine Z_9 ?_;refine bN (λk:Nat=>[(9,.p b43),(48,.i n),(49,.i (k:Int))]) (λk=>[cV bp B ow (pr.set o n),iy b43 bp o b39 b41 n,frC b39 n (List.replicate k (-1)++List.replicate (n - k) 0),gdC b41 n (List.replicate n false)]) (λk=>k<=n) (λk=>n - k) (0) ?_ ?_ ?_ ?_
 .exact au _
 .exact Zwk
 .exact Zu
 rintro k hk;refine Zw6 ?_ ?_<;>intro hc8
 .simp only[ae]at hc8;refine sw ?_;refine Wq79 ?_;rintro _ _ ⟨rfl,rfl⟩;rw[fR,zu _ _ Wq1];refine gh ?_;refine dM (k+1) ?_ ?_ ?_
  .exact wH
  .exact Zwk
  exact Zu
 simp only[ac]at hc8;obtain rfl:k=n:=by omega
 exact Wq365
structure eA where
 bp:Nat
 bt:Nat
 bf:Nat
 bg:Nat
 bm:Nat
 o:Nat
 n:Nat
 gw:List Int
 gB:List Int
 gp:List Int
def eA.oth(L:eA)(f:Nat):Bool:=match L.gw[f]? with|some x=>x != -1&&x !=(L.o:Int)|none=>false
structure Mem where
 data:List Int
 RQ:List Bool
structure C1 where
 B:List Int
 ow:List Int
 pr:List Int
 fr:List Int
 gd:List Bool
structure dJ(L:eA)(M:Mem)(k:C1):Prop where
 pl:dg k.B k.ow k.pr
 o4:L.o<4
 n1:1<=L.n
 n64:L.n<=64
 fr:k.fr.length=L.n
 gd:k.gd.length=L.n
 dl:M.data.length=L.n*64
 tl:M.RQ.length=64
 db:u8s M.data
 RY:∀p,p<L.n->(k.fr[p]? =some (-1)/\∀j,j<64->M.data[p*64+j]? =some 0)\/(∃f:Nat,k.fr[p]? =some (f:Int)/\16<=f/\f<256/\k.ow[f]? =some (L.o:Int)/\∀j,j<64->k.B[f*64+j]? =M.data[p*64+j]?)
 inj:∀p q f:Nat,k.fr[p]? =some (f:Int)->k.fr[q]? =some (f:Int)->p=q
 held:∀f:Nat,f<256->(L.oth f=false/\k.ow[f]? =some (-1))\/(L.oth f=false/\k.ow[f]? =some (L.o:Int)/\∃p:Nat,k.fr[p]? =some (f:Int))\/(L.oth f=true/\k.ow[f]? =L.gw[f]? /\∀j,j<64->k.B[f*64+j]? =L.gB[f*64+j]?)
 prom:k.pr[L.o]? =some (L.n:Int)
 prs:k.pr=L.gp
 cap:L.n<=((List.range' 16 240).filter (λf=> !L.oth f)).length
def Mem.put(M:Mem)(a:Nat)(b:Int):Mem:=⟨M.data.set a b,M.RQ.set (a/64) true⟩
def Mem.calm(M:Mem):Mem:=⟨M.data,List.replicate 64 false⟩
theorem nj:∀(n:Nat) (l:List Nat),l.Nodup->(∀x,x∈l->x<n)->l.length<=n
 |0,l,_,h=>by
  cases l with
  |nil=>simp
  |cons x l=>have:=h x cH;omega
 |n+1,l,hn,h=>by
  by_cases hm:n∈l
  .have h1:=nj n (l.erase n) (hn.erase n) (λx hx=>by
    grind)
   grind
  have h1:=nj n l hn (λx hx=>by
   grind)
  omega
section
variable {L:eA} {M:Mem} {k:C1}
theorem idx_of{l:List Int}{f:Int}(h:f∈l):l[l.idxOf f]? =some f:=by
 grind
theorem Lv{l:List Int}:∀{fs:List Nat},fs.Nodup->(∀f,f∈fs->((f:Nat):Int)∈l)->(fs.map λf:Nat=>l.idxOf (f:Int)).Nodup
 :=by intro y1 y2;induction y2<;>grind [idx_of]
theorem mem_fr{l:List Int}{p:Nat}{v:Int}(h:l[p]? =some v):v∈l:=by grind
theorem dJ.few(h:dJ L M k){fs:List Nat}(hnd:fs.Nodup)(hmem:∀f,f∈fs->((f:Nat):Int)∈k.fr):fs.length<=L.n/\∀p:Nat,k.fr[p]? =some (-1)->fs.length<L.n:=by
 have h1:=Lv hnd hmem;have h3:∀x,x∈fs.map (λf:Nat=>k.fr.idxOf (f:Int))->x<L.n:=λx hx=>by
  grind [h.fr]
 refine⟨by have:=nj L.n _ h1 h3;grind,λp hp=>?_⟩;have hpl:p<L.n:=by have:=(aj.1 hp).1;rw[h.fr]at this;exact this
 have h2:=nj L.n (p::fs.map λf:Nat=>k.fr.idxOf (f:Int)) (List.nodup_cons.2 ⟨λhm=>by
  grind,h1⟩) (λx hx=>by
  grind)
 grind
theorem dJ.To(h:dJ L M k):(cI k.ow L.o 256).length<=L.n/\∀p:Nat,k.fr[p]? =some (-1)->(cI k.ow L.o 256).length<L.n:=by
 unfold cI;rw[aV];refine h.few (List.filter_sublist.nodup List.nodup_range) (λf hf=>?_);rw[List.mem_filter,List.mem_range]at hf;have e:=eq_of_beq hf.2;rcases h.held f hf.1 with⟨-,h1⟩|⟨-, -,q,hq⟩|⟨h1,h2, -⟩
 .grind
 .grind
 grind [eA.oth]
theorem dJ.heldLt(h:dJ L M k){p:Nat}(hp:k.fr[p]? =some (-1)):(cI k.ow L.o 256).length<L.n:=h.To.2 p hp
theorem dJ.free(h:dJ L M k){p:Nat}(hp:k.fr[p]? =some (-1)):∃f,16<=f/\f<256/\k.ow[f]? =some (-1):=by
 apply Classical.byContradiction;intro hno;have h1:=(h.few (fs:=(List.range' 16 240).filter (λf=> !L.oth f)) (List.filter_sublist.nodup List.nodup_range') (λf hf=>by
  rw[List.mem_filter,List.mem_range'_1]at hf;rcases h.held f (by omega)with⟨-,h1⟩|⟨-, -,q,hq⟩|⟨h1, -⟩
  ·grind
  ·grind
  grind)).2 p hp
 grind [h.cap]
theorem dJ.at_(h:dJ L M k){a:Nat}(ha:a<L.n*64):∃b,M.data[a]? =some b/\0<=b/\b<=255:=by
 have hl:a<M.data.length:=by rw[h.dl];exact ha
 refine⟨M.data[a],aa hl,h.db _ (List.getElem_mem hl)⟩
theorem dJ.putF(h:dJ L M k){p j f:Nat}{b:Int}(hj:j<64)(hb:0<=b/\b<=255)(hf:k.fr[p]? =some (f:Int)):dJ L (M.put (p*64+j) b) {k with B:=k.B.set (f*64+j) b}:=by
 have hpl:p<L.n:=by have:=(aj.1 hf).1;rw[h.fr]at this;exact this
 have hBl:=h.pl.b;have hf256:f<256:=by
  rcases h.RY p hpl with⟨h1,_⟩|⟨f',h1,h2,h3,_⟩
  .grind
  grind
 refine⟨⟨by grind,h.pl.ow,h.pl.pr⟩,h.o4,h.n1,h.n64,h.fr,h.gd,by show(M.data.set _ _).length=_;grind [h.dl],by show(M.RQ.set _ _).length=_;grind [h.tl],?_,?_,h.inj,?_,h.prom,h.prs,h.cap⟩
 .intro x hx;rcases List.mem_or_eq_of_mem_set hx with h1|h1
  .exact h.db x h1
  omega
 .intro q hq;show(k.fr[q]? =some (-1)/\∀i,i<64->(M.data.set (p*64+j) b)[q*64+i]? =some 0)\/(∃g:Nat,k.fr[q]? =some (g:Int)/\16<=g/\g<256/\k.ow[g]? =some (L.o:Int)/\∀i,i<64->(k.B.set (f*64+j) b)[g*64+i]? =(M.data.set (p*64+j) b)[q*64+i]?);rcases h.RY q hq with⟨h1,h2⟩|⟨g,h1,h2,h3,h4,h5⟩
  .grind
  right;refine⟨g,h1,h2,h3,h4,λi hi=>?_⟩;by_cases hqp:q=p
  .grind
  have hgf:g≠f:=by
   rintro rfl;exact hqp (h.inj q p g h1 hf)
  grind
 intro g hg;show _\/_\/(_/\_/\∀i,i<64->(k.B.set (f*64+j) b)[g*64+i]? =_);rcases h.held g hg with h1|h1|⟨h1,h2,h3⟩
 .grind
 .grind
 refine .inr (.inr ⟨h1,h2,λi hi=>?_⟩);have hgf:g≠f:=by
  rintro rfl;rcases h.RY p hpl with⟨h4,_⟩|⟨f',h4,_,_,h5,_⟩
  .grind
  grind [eA.oth]
 grind
theorem dJ.map(h:dJ L M k){p f:Nat}(hp:p<L.n)(hf:k.fr[p]? =some (-1))(h16:16<=f)(h256:f<256)(hw:k.ow[f]? =some (-1)):dJ L M {k with B:=eI k.B f,ow:=k.ow.set f L.o,fr:=k.fr.set p f}:=by
 have hBl:=h.pl.b;have howl:=h.pl.ow;have hfl:=h.fr;have hnof:∀q:Nat,k.fr[q]? ≠some (f:Int):=λq hq=>by
  have hql:q<L.n:=by have:=(aj.1 hq).1;rw[h.fr]at this;exact this
  rcases h.RY q hql with⟨h1,_⟩|⟨g,h1,_,_,h4,_⟩
  .grind
  grind
 have hz:∀j,j<64->M.data[p*64+j]? =some 0:=by
  rcases h.RY p hp with⟨_,h2⟩|⟨g,h1,_⟩
  .exact h2
  grind
 refine⟨⟨yD hBl h256,by grind,h.pl.pr⟩,h.o4,h.n1,h.n64,by grind,h.gd,h.dl,h.tl,h.db,?_,?_,?_,h.prom,h.prs,h.cap⟩
 .intro q hq;show((k.fr.set p (f:Int))[q]? =some (-1)/\∀i,i<64->M.data[q*64+i]? =some 0)\/(∃g:Nat,(k.fr.set p (f:Int))[q]? =some (g:Int)/\16<=g/\g<256/\(k.ow.set f (L.o:Int))[g]? =some (L.o:Int)/\∀i,i<64->(eI k.B f)[g*64+i]? =M.data[q*64+i]?);by_cases hqp:q=p
  .grind [AW]
  rw[List.getElem?_set_ne Wq1];rcases h.RY q hq with h1|⟨g,h1,h2,h3,h4,h5⟩
  .grind
  grind [pZ]
 .intro a b g ha hb;show a=b
  change (k.fr.set p (f:Int))[a]? =_ at ha
  change (k.fr.set p (f:Int))[b]? =_ at hb
  by_cases hap:a=p
  .grind
  by_cases hbp:b=p
  .grind
  rw[List.getElem?_set_ne Wq1]at ha hb;exact h.inj a b g ha hb
 intro g hg;show(_/\(k.ow.set f (L.o:Int))[g]? =some (-1))\/(_/\(k.ow.set f (L.o:Int))[g]? =some (L.o:Int)/\∃q:Nat,(k.fr.set p (f:Int))[q]? =some (g:Int))\/(_/\(k.ow.set f (L.o:Int))[g]? =_/\∀i,i<64->(eI k.B f)[g*64+i]? =_);have hhe:=h.held g hg;by_cases hgf:g=f
 .subst hgf;right;left;refine⟨?_,by grind,p,by grind⟩
  grind [eA.oth]
 rw[List.getElem?_set_ne Wq1];rcases hhe with h1|⟨h0,h1,q,hq⟩|⟨h1,h2,h3⟩
 .grind
 .right;left;refine⟨h0,h1,q,?_⟩
  grind
 grind [pZ]
theorem dJ.put0(h:dJ L M k){p j:Nat}(hj:j<64)(hp:p<L.n)(hf:k.fr[p]? =some (-1)):dJ L (M.put (p*64+j) 0) k:=by
 have hz:M.data[p*64+j]? =some 0:=by
  rcases h.RY p hp with⟨_,h2⟩|⟨g,h1,_⟩
  .grind
  grind
 have e:M.data.set (p*64+j) 0=M.data:=by
  apply List.ext_getElem?;intro i;rw[List.getElem?_set];split
  .grind
  rfl
 unfold Mem.put;rw[e];exact⟨h.pl,h.o4,h.n1,h.n64,h.fr,h.gd,h.dl,by grind [h.tl],h.db,h.RY,h.inj,h.held,h.prom,h.prs,h.cap⟩
theorem dJ.calm(h:dJ L M k):dJ L M.calm k:=⟨h.pl,h.o4,h.n1,h.n64,h.fr,h.gd,h.dl,aE,h.db,h.RY,h.inj,h.held,h.prom,h.prs,h.cap⟩
end
def Mem.new(n:Nat):Mem:=⟨List.replicate (n*64) 0,List.replicate 64 false⟩
theorem dJ.new{L:eA}(ho:L.o<4)(h1:1<=L.n)(h64:L.n<=64){pr:List Int}(hl:dg L.gB L.gw pr)(hg:L.gp=pr.set L.o L.n)(hno:∀x,x∈L.gw->x≠(L.o:Int))(hc:L.n<=((List.range' 16 240).filter (λf=> !L.oth f)).length):
  dJ L (Mem.new L.n) ⟨L.gB,L.gw,L.gp,List.replicate L.n (-1),List.replicate L.n false⟩:=by
 refine⟨⟨hl.b,hl.ow,by grind [hl.pr]⟩,ho,h1,h64,aE,aE,aE,aE,?_,?_,?_,?_,?_,rfl,hc⟩
 .intro x hx;have:=List.eq_of_mem_replicate hx;omega
 .intro p hp;left;refine⟨by grind,λj hj=>?_⟩;show(List.replicate (L.n*64) (0:Int))[p*64+j]? =_
  grind
 .grind
 .grind [hl.ow,eA.oth]
 grind [hl.pr]
theorem PE{L:eA}{n:Nat}(h:n<=((List.range' 16 240).filter (λf=>L.gw[f]? ==some (-1))).length):n<=((List.range' 16 240).filter (λf=> !L.oth f)).length:=
 aN h (List.Sublist.length_le (by
  rw[show(List.range' 16 240).filter (λf=>L.gw[f]? ==some (-1))=((List.range' 16 240).filter (λf=> !L.oth f)).filter (λf=>L.gw[f]? ==some (-1)) by
   rw[List.filter_filter]
   grind [eA.oth]]
  exact List.filter_sublist))
def eY(L:eA)(tu:List Bool):List Value:= .p L.bp:: .p L.bt::(jA tu++[.bool false])
abbrev sQ(L:eA)(tu:List Bool):bC:=row L.bm (eY L tu) 148
theorem memCells_tu{L:eA}{tu:List Bool}{j:Nat}{b:Bool}(h:tu[j]? =some b):(eY L tu)[2+j]? =some (.bool b):=by
 grind [eY,lO,Gl]
theorem vz{L:eA}{tu:List Bool}(h:tu.length=64):(eY L tu)[66]? =some (.bool false):=by
 grind [eY,lO]
theorem nm{L:eA}{tu:List Bool}(h:tu.length=64):(eY L tu).length=67:=by simp[eY,lO,h]
theorem nl{L:eA}{tu:List Bool}{j:Nat}(hj:j<tu.length)(b:Bool):(eY L tu).set (2+j) (.bool b)=eY L (tu.set j b):=by
 grind [eY,lO,CL]
theorem BZ{L:eA}{tu:List Bool}:((eY L tu).drop 2).take (jA tu).length=jA tu:=by
 unfold eY;simp
theorem zM{L:eA}{tu:List Bool}(h:tu.length=64):(eY L tu).take 2++List.replicate 64 (Value.bool false)++(eY L tu).drop (2+64)=eY L (List.replicate 64 false):=by
 grind [eY,jA,lO,tV]
def D2(L:eA)(tu:List Bool)(k:C1):List bC:=[cV L.bp k.B k.ow k.pr,iy L.bt L.bp L.o L.bf L.bg L.n,frC L.bf L.n k.fr,gdC L.bg L.n k.gd,sQ L tu]
abbrev eG(L:eA)(M:Mem):bC:=exC [L.bp,L.bt,L.bf,L.bg,L.bm] (D2 L M.RQ) Zrf (dJ L M)
theorem qH{L:eA}{M:Mem}{w:World}(h:(eG L M).ok w):∃k,dJ L M k/\(cV L.bp k.B k.ow k.pr).ok w/\(iy L.bt L.bp L.o L.bf L.bg L.n).ok w/\(frC L.bf L.n k.fr).ok w/\(sQ L M.RQ).ok w:=by
 obtain⟨k,h1,h2⟩:=exC_ok h;exact⟨k,h1,h2 _ (.head _ _),h2 _ (.tail _ (.head _ _)),h2 _ (.tail _ (.tail _ (.head _ _))),h2 _ (.tail _ (.tail _ (.tail _ (.tail _ (.head _ _)))))⟩
theorem zE(bt bp o bf bg n:Nat)(w:World)(h:(iy bt bp o bf bg n).ok w):Ctr prog 100 [.p bt] w [] (λv cs=>v= .i n/\cs=[]):=by
 refine Zfs func100 ntmps100 ?_;refine tH ?_;refine Z_5 ?_;exact pM
theorem Q6(bt bp o bf bg n p:Nat)(w:World)(h:(iy bt bp o bf bg n).ok w):Ctr prog 124 [.p bt,.i p] w [] (λv cs=>v= .bool (decide (p<n))/\cs=[]):=by
 refine Zfs func124 ntmps124 ?_;refine iT ?_;refine fN (bM rfl rfl) (bF Zrf (bU rfl)) (dc kP rfl) rfl (Z_7 ?_);refine Zra ?_;rw[ay (show(0:Int)<=p by omega),show decide ((p:Int)<n)=decide (p<n)from decide_eq_decide.2 Wq1];exact fy
def vZ(f:Int):Value:=bif f== -1 then .tuple #[.i 0,.bool false]else .tuple #[.i f,.bool true]
theorem kg(bt bp o bf bg n p:Nat)(fr:List Int)(f:Int)(hp:p<n)(hf:fr[p]? =some f)(w:World)(h:(iy bt bp o bf bg n).ok w)(h2:(frC bf n fr).ok w):
  Ctr prog 103 [.p bt,.i p] w [] (λv cs=>v=vZ f/\cs=[]):=by
 have hrd:=eL h2;refine Zfs func103 ntmps103 ?_;refine gK ?_;refine ZSe (λw hi=>Q6 bt bp o bf bg n p w (bC.old h hi)) ?_;rw[ay hp];refine Z_5 ?_;refine fN (bE rfl rfl) (bF Zrf (bU rfl)) (dc kP rfl) rfl (ZB ?_);refine Zyn rfl rfl (bS (j:=p) rfl Zrf (bU rfl) (bU rfl) Wq2 Wq2) ?_;refine fN (bE rfl rfl) (bF Zrf (bU rfl)) (dL hrd (cq hf)) rfl (Z_4 ?_);refine ZW ?_ ?_<;>intro hc1
 .have hc:(f== -1)=true:=hc1;simp only[vZ,hc,ai];refine Z_8 ?_;exact lQ
 have hc:(f== -1)=false:=hc1;simp only[vZ,hc,ah];refine Z_7 ?_;refine MV ?_;refine ZA ?_;refine Zy (bS (j:=p) rfl Zrf (Zv rfl) (Zv rfl) Wq2 Wq2) ?_;refine dK (bF Zrf Zv0) (dL hrd (cq hf)) rfl (Z_5 ?_);exact lQ
theorem tmap_ok(bt bp o bf bg n p:Nat)(B ow pr fr:List Int)(hl:dg B ow pr)(ho:o<4)(hn:pr[o]? =some (n:Int))(hlt:(cI ow o 256).length<n)(f0:Nat)(h16:16<=f0)(h256:f0<256)(hf0:ow[f0]? =some (-1))(hp:p<n)(hf:fr[p]? =some (-1))(w:World)
  (hi:Inv w (bD [iy bt bp o bf bg n,frC bf n fr,cV bp B ow pr]) [iy bt bp o bf bg n,frC bf n fr,cV bp B ow pr] w):
  Ctr prog 104 [.p bt,.i p] w [iy bt bp o bf bg n,frC bf n fr,cV bp B ow pr] (λv cs=>∃f:Nat,16<=f/\f<256/\ow[f]? =some (-1)/\v= .tuple #[.i f,.i 0]/\cs=[cV bp (eI B f) (ow.set f o) pr,iy bt bp o bf bg n,frC bf n (fr.set p f)]):=by
 refine Zfn func104 ntmps104 hi ?_;refine gK ?_;refine ZSe (λw hi=>Q6 bt bp o bf bg n p w (hi.get Zh)) ?_;rw[ay hp];refine ji ?_;refine Z_7 ?_;refine ZSe (λw hi=>kg bt bp o bf bg n p fr (-1) hp hf w (hi.get Zh) (hi.get Zh)) ?_;refine fD ?_;refine iU ?_;refine Z_3 ?_;refine bL ⟨λj=>List.elem j [8],[]⟩ Zk (lU ?_);refine ZFe 2 0 ?_;refine oO ?_;refine ZFe 6 1 ?_;refine ZG 7 ?_;refine cn 8 Zk (pL ([cV bp B ow pr]) (λw hi hin=>take_ok bp B ow pr hl o ho n hn Wq1 f0 h16 h256 hf0 w hin) ?_);rintro _ _ ⟨f,hf1,hf2,hf3,rfl,rfl⟩;refine sD ?_;refine ZE 12 ?_;refine ZE 13 ?_;refine eQ ?_;refine Z_8 ?_;refine oU ?_;refine Z_7 ?_;refine Zy (bV (j:=p) (sz:=1) (r:=p) rfl Zrf (Zv rfl) (Zv rfl) Wq2 Wq2 Wq1) ?_;refine eE (iK Zrf rfl rfl rfl Za Wq1) ?_;rintro _ _ ⟨rfl,rfl⟩;rw[fR];refine gK ?_;exact xH (cs':=[row _ _ _,row _ _ _,slv _ _ _ _ _ _]) (.inl rfl) Zu rfl rfl rfl ⟨f,hf1,hf2,hf3,rfl,rfl⟩
def gB(d:List Int)(a:Nat):Int:=d.getD a 0
theorem LV{d:List Int}{a:Nat}(h:a<d.length):d[a]? =some (gB d a):=by simp[gB,h]
theorem kE{d:List Int}(h:u8s d)(a:Nat):0<=gB d a/\gB d a<=255:=by
 unfold gB;by_cases hl:a<d.length
 .rw[List.getD_eq_getElem?_getD,aa hl];exact h _ (List.getElem_mem hl)
 grind
def s8(d:List Int)(a:Nat):Nat->Int
 |0=>0
 |k+1=>s8 d a k*256+gB d (a+(3 - k))
def uB(d:List Int)(a:Nat):Int:=gB d a+256*gB d (a+1)+65536*gB d (a+2)+16777216*gB d (a+3)
theorem GK(d:List Int)(a:Nat):s8 d a 4=uB d a:=by
 simp[s8,uB];omega
theorem Be{d:List Int}(h:u8s d)(a:Nat):∀k,0<=s8 d a k/\s8 d a k<256^k
 |0=>by simp[s8]
 |k+1=>by
  have h1:=Be h a k;have h2:=kE h (a+(3 - k))
  grind [s8]
theorem xj{d:List Int}(h:u8s d)(a:Nat):u32 (uB d a):=by
 have h1:=kE h a;have h2:=kE h (a+1);have h3:=kE h (a+2);have h4:=kE h (a+3);unfold uB;exact wH
theorem GJ{d:List Int}(h:u8s d)(a:Nat){k:Nat}(hk:k<4):bits .or .u32 (IntKind.u32.wrap (s8 d a k*2^(min (8:Int).toNat IntKind.u32.bits))) (gB d (a+(3 - k)))=s8 d a (k+1):=by
 have h1:=Be h a k;have h2:=kE h (a+(3 - k));simp only[s8];generalize s8 d a k=v at h1;have hv:0<=v/\v<16777216:=by
  obtain rfl|rfl|rfl|rfl:k=0\/k=1\/k=2\/k=3:=by omega
  all_goals (simp at h1;omega)
 have e1:(2:Int)^(min (8:Int).toNat IntKind.u32.bits)=256:=rfl;rw[e1,u32_wrap_id _ Wq1 Wq1];exact bits_join .u32 32 Wq7 wraps_u32 8 (v*256) _ Wq1 Wq1 Wq1 Wq1 Wq1 Wq1
def uE(v:Int)(k:Nat):Int:=v/256^k%256
theorem p7(v:Int)(k:Nat):0<=uE v k/\uE v k<=255:=by unfold uE;omega
theorem Bb(v:Int){k:Nat}(hk:k<4):IntKind.u8.wrap (v.fdiv (2^(min (IntKind.u32.wrap (8*(k:Int))).toNat IntKind.u32.bits)))=uE v k:=by
 have e:∀n:Nat,v.fdiv (2^n)=v/2^n:=λn=>Int.fdiv_eq_ediv_of_nonneg v bR
 rw[e,IntKind.wrap_u8];unfold uE;obtain rfl|rfl|rfl|rfl:k=0\/k=1\/k=2\/k=3:=by omega
 all_goals rfl
def Mem.SQ(M:Mem)(a:Nat)(v:Int):Nat->Mem
 |0=>M
 |k+1=>(Mem.SQ M a v k).put (a+k) (uE v k)
def Mem.Sz(M:Mem)(a:Nat)(v:Int):Mem:=M.SQ a v 4
def Mem.fill(M:Mem)(a:Nat)(l:List Int):Nat->Mem
 |0=>M
 |k+1=>(Mem.fill M a l k).put (a+k) (gB l k)
theorem oa(L:eA)(M:Mem)(w:World)(h:(eG L M).ok w):Ctr prog 78 [.p L.bm] w [] (λv cs=>v= .w (L.n*64:Nat)/\cs=[]):=by
 obtain⟨k,hr,h1,h2,h3,h4⟩:=qH h;have n64:=hr.n64;refine Zfs func78 ntmps78 ?_;refine tH ?_;refine ZSe (λw hi=>zE L.bt L.bp L.o L.bf L.bg L.n w (bC.old h2 hi)) ?_;refine nP ?_;refine Zy (jR (Zv rfl) (Zv rfl) (show IntKind.u32.wrap ((IntKind.u32.wrap (L.n:Int))*64)=((L.n*64:Nat):Int) by rw[u32_wrap_id (L.n:Int) Wq1 Wq1,u32_wrap_id _ Wq1 Wq1];omega)) ?_;exact mF
theorem y8(a:Nat)(ha:a<=4294967295)(w:World):Ctr prog 102 [.w a] w [] (λv cs=>v= .tuple #[.i (a/64:Nat),.i (a%64:Nat)]/\cs=[]):=by
 refine Zfs func102 ntmps102 ?_;refine Z_9 ?_;refine Zy (k8 (Zv rfl) (Zv rfl) Wq1 (show _=((a/64:Nat):Int)from by rw[bo Wq1,u32_wrap_id _ Wq1 Wq1];omega)) ?_;refine wO ?_;refine ZA ?_;refine Zy (i4 (Zv rfl) (Zv rfl) Wq1 (show _=((a%64:Nat):Int)from by grind)) ?_;refine wO ?_;refine Z_5 ?_;exact lQ
theorem Fq(L:eA)(M:Mem)(a n:Nat)(ha:a<=4294967295)(hn:n<=1000)(w:World)(h:(eG L M).ok w):Ctr prog 101 [.p L.bm,.w a,.i n] w [] (λv cs=>v= .bool (decide (a+n<=L.n*64))/\cs=[]):=by
 obtain⟨k,hr,_⟩:=qH h;have n64:=hr.n64;refine Zfs func101 ntmps101 ?_;refine Z_8 ?_;refine tJ ?_;refine ZA ?_;refine tJ ?_;refine Zy (ef (Zv rfl) (Zv rfl) (IntWalk.u64_in _ ⟨by omega,by omega⟩)) ?_;refine ZA ?_;refine ZSe (λw hi=>oa L M w (bC.old h hi)) ?_;refine tJ ?_;refine Z_5 ?_;refine Zra ?_;rw[show decide ((a:Int)+n<=((L.n*64:Nat):Int))=decide (a+n<=L.n*64)from decide_eq_decide.2 Wq1];exact fy
theorem pE(f:Nat):vZ (f:Int)= .tuple #[.i f,.bool true]:=by
 grind [vZ]
theorem zq(L:eA)(M:Mem)(a:Nat)(ha:a<L.n*64)(w:World)(h:(eG L M).ok w):Ctr prog 90 [.p L.bm,.w a] w [] (λv cs=>v= .int .u8 (gB M.data a)/\cs=[]):=by
 obtain⟨k,hr,h1,h2,h3,h4⟩:=qH h;have n64:=hr.n64;have hp:a/64<L.n:=by omega
 have hj:a%64<64:=by omega
 have hdl:=hr.dl;have hda:M.data[a/64*64+a%64]? =some (gB M.data a):=by rw[show a/64*64+a%64=a by omega];exact LV Wq1
 rcases hr.RY (a/64) hp with⟨f1,f2⟩|⟨f,f1,f2,f3,f4,f5⟩
 .have hz:gB M.data a=0:=by have:=f2 (a%64) hj;rw[hda]at this;exact ax this
  rw[hz];refine Zfs func90 ntmps90 ?_;refine Z_8 ?_;refine ZSe (λw hi=>y8 a Wq1 w) ?_;refine fD ?_;refine MV ?_;refine ZA ?_;refine ZSe (λw hi=>kg L.bt L.bp L.o L.bf L.bg L.n (a/64) k.fr (-1) hp f1 w (bC.old h2 hi) (bC.old h3 hi)) ?_;refine iT ?_;refine oU ?_;refine Z_7 ?_;exact pM
 have hb:k.B[f*64+a%64]? =some (gB M.data a):=by rw[f5 _ hj,hda]
 refine Zfs func90 ntmps90 ?_;refine Z_8 ?_;refine ZSe (λw hi=>y8 a Wq1 w) ?_;refine fD ?_;refine MV ?_;refine ZA ?_;refine ZSe (λw hi=>kg L.bt L.bp L.o L.bf L.bg L.n (a/64) k.fr f hp f1 w (bC.old h2 hi) (bC.old h3 hi)) ?_;rw[pE];refine iT ?_;refine iU ?_;refine Z_7 ?_;refine MV ?_;refine Z_2 ?_;refine ZSe (λw hi=>OB L.bp k.B k.ow k.pr hr.pl f (a%64) L.o _ f2 f3 f4 Wq1 hj hb w (bC.old h1 hi)) ?_;refine iT ?_;exact pM
theorem rput_in(L:eA)(M:Mem)(a:Nat)(ha:a<L.n*64)(b:Int)(hb:0<=b/\b<=255)(w:World)(k:C1)(hr:dJ L M k)(hi:Inv w (bD (D2 L M.RQ k)) (D2 L M.RQ k) w):
  Ctr prog 79 [.p L.bm,.w a,.int .u8 b] w (D2 L M.RQ k) (λv cs=>v= .bool true/\∃k',dJ L (M.put a b) k'/\cs=D2 L (M.put a b).RQ k'):=by
 have n64:=hr.n64;have o4:=hr.o4;have hp:a/64<L.n:=by omega
 have hj:a%64<64:=by omega
 have hdl:=hr.dl;have htl:=hr.tl;have ea:a/64*64+a%64=a:=by omega
 obtain⟨hb0,hb1⟩:=hb;have his:∀w0 S w,Inv w0 S (D2 L M.RQ k) w->(eG L M).ok w:=λw0 S w hi=>(hi.Sy (rest:=[]) (bs:=[L.bp,L.bt,L.bf,L.bg,L.bm]) (F:=D2 L M.RQ) (hb:=λ_=>rfl) (p:=dJ L M) k hr).ok _ (List.mem_cons_self ..)
 rcases hr.RY (a/64) hp with⟨f1,f2⟩|⟨f,f1,f2,f3,f4,f5⟩
 .by_cases hb0':b=0
  .subst hb0';have hfin:=hr.put0 hj hp f1;rw[ea]at hfin;refine Zfn func79 ntmps79 hi ?_;unfold D2 at his|-;refine fB ?_;refine Wq171 ?_;refine iT ?_;refine ZSe (λw hi=>kg L.bt L.bp L.o L.bf L.bg L.n (a/64) k.fr (-1) hp f1 w (hi.get Zh) (hi.get Zh)) ?_;refine AO ?_;refine iU ?_;refine Z_8 ?_;refine Wq199 ?_;rintro _ _ ⟨rfl,rfl⟩;rw[nl Wq1];refine iT ?_;refine fa (bE rfl rfl) rfl rfl (Zy (QU (q:=false) (Zv rfl) ⟨_,rfl,λ_ e=>by simp at e⟩) ?_);refine Z_4 ?_;refine Zrb ([row _ _ _,row _ _ _,slv _ _ _ _ _ _,slv _ _ _ _ _ _,row _ _ _]) ?_;exact⟨rfl,k,hfin,rfl⟩
  obtain⟨f0,g1,g2,g3⟩:=hr.free f1;refine Zfn func79 ntmps79 hi ?_;unfold D2 at his|-;refine fB ?_;refine Wq171 ?_;refine iT ?_;refine ZSe (λw hi=>kg L.bt L.bp L.o L.bf L.bg L.n (a/64) k.fr (-1) hp f1 w (hi.get Zh) (hi.get Zh)) ?_;refine AO ?_;refine bW rfl (bR) (fB ?_);refine ZFa 66 ?_;refine dK (bF Zrf Zv0) (cN (o:=66) Zh (vz htl)) rfl (tI ?_);refine fB ?_;refine dz ([iy L.bt L.bp L.o L.bf L.bg L.n,frC L.bf L.n k.fr,cV L.bp k.B k.ow k.pr]) (λw hi hin=>tmap_ok L.bt L.bp L.o L.bf L.bg L.n (a/64) k.B k.ow k.pr k.fr hr.pl o4 hr.prom (hr.heldLt f1) f0 g1 g2 g3 hp f1 w hin) ?_;rintro _ _ ⟨f,m1,m2,m3,rfl,rfl⟩;have hmap:=hr.map hp f1 m1 m2 m3;have hfin:=hmap.putF (j:=a%64) (b:=b) (f:=f) hj ⟨hb0,hb1⟩ (show(k.fr.set (a/64) (f:Int))[a/64]? =_ by grind);rw[ea]at hfin;have hpl':=hmap.pl;refine kM ?_;refine iU ?_;refine fD ?_;refine Wq199 ?_;rintro _ _ ⟨rfl,rfl⟩;rw[nl Wq1];refine iT ?_;refine gU (bE rfl rfl) rfl (eo ([cV L.bp (eI k.B f) (k.ow.set f L.o) k.pr]) rfl (λ_ _=>rfl) Zi (λw hi hin=>Kg L.bp (eI k.B f) (k.ow.set f L.o) k.pr hpl' f (a%64) L.o b m1 m2 (show(k.ow.set f (L.o:Int))[f]? =some (L.o:Int) by grind) Wq1 hj w hin)) rfl ?_;rintro _ _ ⟨_,⟨rfl,rfl⟩,rfl⟩;refine Z_5 ?_;refine bG [cV L.bp ((eI k.B f).set (f*64+a%64) b) (k.ow.set f L.o) k.pr,iy L.bt L.bp L.o L.bf L.bg L.n,frC L.bf L.n (k.fr.set (a/64) f),gdC L.bg L.n k.gd,sQ L (M.RQ.set (a/64) true)] Zj (Zrb ([row _ _ _,row _ _ _,slv _ _ _ _ _ _,slv _ _ _ _ _ _,row _ _ _]) ?_);exact⟨rfl,_,hfin,rfl⟩
 have hfin:=hr.putF (j:=a%64) (b:=b) hj ⟨hb0,hb1⟩ f1;rw[ea]at hfin;refine Zfn func79 ntmps79 hi ?_;unfold D2 at his|-;refine fB ?_;refine Wq171 ?_;refine iT ?_;refine ZSe (λw hi=>kg L.bt L.bp L.o L.bf L.bg L.n (a/64) k.fr f hp f1 w (hi.get Zh) (hi.get Zh)) ?_;rw[pE];refine AO ?_;refine iU ?_;refine Z_8 ?_;refine Wq199 ?_;rintro _ _ ⟨rfl,rfl⟩;rw[nl Wq1];refine iT ?_;refine gU (bE rfl rfl) rfl (eo ([cV L.bp k.B k.ow k.pr]) rfl (λ_ _=>rfl) Zi (λw hi hin=>Kg L.bp k.B k.ow k.pr hr.pl f (a%64) L.o b f2 f3 f4 Wq1 hj w hin)) rfl ?_;rintro _ _ ⟨_,⟨rfl,rfl⟩,rfl⟩;refine Z_5 ?_;refine bG [cV L.bp (k.B.set (f*64+a%64) b) k.ow k.pr,iy L.bt L.bp L.o L.bf L.bg L.n,frC L.bf L.n k.fr,gdC L.bg L.n k.gd,sQ L (M.RQ.set (a/64) true)] Zj (Zrb ([row _ _ _,row _ _ _,slv _ _ _ _ _ _,slv _ _ _ _ _ _,row _ _ _]) ?_);exact⟨rfl,_,hfin,rfl⟩
def cpy(d:List Int)(o n k:Nat):List Int:=(List.range k).map (λj=>gB d (o+j))++List.replicate (n - k) 0
theorem Gf(d:List Int)(o n:Nat):cpy d o n 0=List.replicate n 0:=by simp[cpy]
theorem Mx(d:List Int)(o:Nat){n k:Nat}(h:k<n):(cpy d o n k).set k (gB d (o+k))=cpy d o n (k+1):=by
 unfold cpy;rw[List.set_append_right _ _ cH,aV,List.length_range,Nat.sub_self,show n - k=(n - (k+1))+1 by omega,List.replicate_succ,List.set_cons_zero,List.range_succ,List.map_append,aw]
 rfl
theorem My{d:List Int}{o n:Nat}(h:o+n<=d.length):cpy d o n n=(d.drop o).take n:=by
 unfold cpy;rw[Nat.sub_self,List.replicate_zero,az];apply List.ext_getElem?
 grind [LV]
def ii(tu:List Bool)(k:Nat):List Int:=((List.range k).filter (λf=>tu.getD f false)).map (λf:Nat=>(f:Int))
theorem xv(tu:List Bool)(k:Nat):ii tu (k+1)=ii tu k++(bif tu.getD k false then[(k:Int)]else[]):=by
 grind [ii,List.range_succ,Bool.false_eq_true]
theorem NH(tu:List Bool)(k:Nat):(ii tu k).length<=k:=by
 grind [ii]
theorem Iv{l:List Bool}{j:Nat}(h:j<l.length):(jA l)[j]? =some (.bool (l.getD j false)):=by
 grind [Gl]
theorem Cv(M:Mem)(l:List Int):∀k,k<=l.length->l.length<=M.data.length->(M.fill 0 l k).data=l.take k++M.data.drop k
 |0,_,_=>by simp[Mem.fill]
 |k+1,h,h2=>by
  have ih:=Cv M l k Wq1 h2;rw[Mem.fill];show(M.fill 0 l k).data.set (0+k) (gB l k)=_
  grind [gB,LV,List.set_append_right,List.length_take,min,List.drop_eq_getElem_cons,List.take_add_one,List.append_assoc]
def Mem.init(n:Nat)(b:List Int):Mem:=⟨b++List.replicate (n*64 - b.length) 0,List.replicate 64 false⟩
theorem Mem.init_eq{n:Nat}{b:List Int}(h:b.length<=n*64):((Mem.new n).fill 0 b b.length).calm=Mem.init n b:=by
 grind [Mem.calm,Mem.init,Cv,Mem.new]
theorem zl(L:eA)(M:Mem)(a:Nat)(ha:a<L.n*64)(b:Int)(hb:0<=b/\b<=255)(w:World)(hi:Inv w (bD [eG L M]) [eG L M] w):
  Ctr prog 79 [.p L.bm,.w a,.int .u8 b] w [eG L M] (λv cs=>v= .bool true/\cs=[eG L (M.put a b)]):=
 ctr_E hi λk hr hi'=>rput_in L M a ha b hb w k hr hi'
theorem mM{L:eA}{M:Mem}{w:World}(h:(eG L M).ok w):1<=L.n/\L.n<=64/\M.data.length=L.n*64/\u8s M.data/\M.RQ.length=64:=by
 obtain⟨k,hr,_⟩:=qH h;exact⟨hr.n1,hr.n64,hr.dl,hr.db,hr.tl⟩
theorem Oi(L:eA)(M:Mem)(a:Nat)(ha:a<L.n*64)(w:World)(h:(eG L M).ok w):Ctr prog 284 [.p L.bm,.w a] w [] (λv cs=>v= .tuple #[.int .u8 (gB M.data a),.bool true]/\cs=[]):=by
 obtain⟨n1,n64,_⟩:=mM h;refine Zfs func284 ntmps284 ?_;refine gK ?_;refine ZSe (λw hi=>Fq L M a 1 Wq1 Wq1 w (bC.old h hi)) ?_;rw[ay (show a+1<=L.n*64 by omega)];refine ji ?_;refine Z_6 ?_;refine ZSe (λw hi=>zq L M a ha w (bC.old h hi)) ?_;refine Z_5 ?_;exact lQ
def Dg(L:eA)(M:Mem)(a:Nat):Value:=bif decide (a+4<=L.n*64)then .tuple #[.w (uB M.data a),.bool true]else .tuple #[.w 0,.bool false]
theorem zh(L:eA)(M:Mem)(a:Nat)(ha:a<=4294967295)(w:World)(h:(eG L M).ok w):Ctr prog 255 [.p L.bm,.w a] w [] (λv cs=>v=Dg L M a/\cs=[]):=by
 obtain⟨n1,n64,hdl,hdb,htl⟩:=mM h;refine Zfs func255 ntmps255 ?_;refine gK ?_;refine ZSe (λw hi=>Fq L M a 4 ha Wq1 w (bC.old h hi)) ?_;refine Zw3 ?_ ?_<;>intro hc1
 .have hc:decide (a+4<=L.n*64)=false:=by simpa using hc1
  refine Z_8 ?_;refine mQ ?_;unfold Dg;rw[hc];exact fy
 have hc:decide (a+4<=L.n*64)=true:=by simpa using hc1
 have hle:a+4<=L.n*64:=of_decide_eq_true hc;refine iT ?_;refine bN (λi:Nat=>[(0,.p L.bm),(1,.w a),(6,.w (s8 M.data a i)),(7,.w (4 - (i:Int)))]) (λ_=>[]) (λi=>i<=4) (λi=>4 - i) (0) ?_ ?_ ?_ ?_
 .omega
 .exact Zwk
 .exact Zu
 rintro i hik;refine Zw7 ?_ ?_<;>intro hc5
 .simp only[ae]at hc5;have hi4:i<4:=by omega
  have ha3:a+(3 - i)<L.n*64:=by omega
  refine Z_6 ?_;refine Zy (yI (Zv rfl) (Zv rfl) Wq1 rfl) ?_;refine Z_3 ?_;refine Zy (ef (Zv rfl) (Zv rfl) (u32_wrap_id _ Wq1 Wq1)) ?_;refine Zy (gr (Zv rfl) (Zv rfl) (show IntKind.u32.wrap ((a:Int)+(4 - (i:Int)) - 1)=((a+(3 - i):Nat):Int) by rw[u32_wrap_id _ Wq1 Wq1];omega)) ?_;refine ZSe (λw hi=>zq L M (a+(3 - i)) ha3 w (bC.old h hi)) ?_;have hg:=kE hdb (a+(3 - i));refine Zy (cQ rfl rfl (Zv rfl) Nl) ?_;refine Zy (Gv Zv0 Zv0 (GJ hdb a hi4)) ?_;refine Z_6 ?_;refine Zy (gr (Zv rfl) (Zv rfl) (u32_wrap_id _ Wq1 Wq1)) ?_;refine Z_2 ?_;refine dM (i+1) ?_ ?_ ?_
  .omega
  .exact Zwk
  exact Zu
 simp only[ac]at hc5;obtain rfl:i=4:=by omega
 refine kM ?_;refine mQ ?_;unfold Dg;rw[hc,GK];exact fy
theorem pe(L:eA)(M:Mem)(a:Nat)(v:Int)(ha:a+4<=L.n*64)(hv:u32 v)(w:World)(hi:Inv w (bD [eG L M]) [eG L M] w):
  Ctr prog 220 [.p L.bm,.w a,.w v] w [eG L M] (λv' cs=>v'= .bool true/\cs=[eG L (M.Sz a v)]):=by
 obtain⟨n1,n64,hdl,hdb,htl⟩:=mM (hi.ok _ (List.mem_cons_self ..));refine Zfn func220 ntmps220 hi ?_;refine fB ?_;refine ZSe (λw hi=>Fq L M a 4 Wq1 Wq1 w (hi.get Zh)) ?_;rw[ay ha];refine ji ?_;refine iT ?_;refine bN (λk:Nat=>[(0,.p L.bm),(1,.w a),(2,.w v),(7,.bool true),(13,.w (k:Int))]) (λk=>[eG L (M.SQ a v k)]) (λk=>k<=4) (λk=>4 - k) (0) ?_ ?_ ?_ ?_
 .omega
 .exact Zwk
 .exact Zu
 rintro k hk;refine Zw6 ?_ ?_<;>intro hc5
 .simp only[ae]at hc5;have hk4:k<4:=by omega
  refine iT ?_;refine Zy (ef (Zv rfl) (Zv rfl) (show IntKind.u32.wrap ((a:Int)+(k:Int))=((a+k:Nat):Int) by rw[u32_wrap_id _ Wq1 Wq1];omega)) ?_;refine Z_2 ?_;refine Zy (jR Zv0 Zv0 rfl) ?_;refine Zy (lW (Zv rfl) (Zv rfl) (by rw[aC];omega) rfl) ?_;refine Zy (cQ rfl rfl Zv0 (Bb v hk4)) ?_;refine ZcM ([eG L (M.SQ a v k)]) (λw hi hin=>zl L (M.SQ a v k) (a+k) Wq1 (uE v k) (p7 v k) w hin) ?_;refine Z_8 ?_;refine Zy (ef (Zv rfl) (Zv rfl) (u32_wrap_id _ Wq1 Wq1)) ?_;refine Z_2 ?_;refine dM (k+1) ?_ ?_ ?_
  .omega
  .exact Zwk
  exact Zu
 simp only[ac]at hc5;obtain rfl:k=4:=by omega
 refine fD ?_;refine Zrb ([exC _ _ _ _]) ?_;exact fy
theorem zp(L:eA)(M:Mem)(p:Nat)(hp:p<L.n)(w:World)(h:(eG L M).ok w):Ctr prog 138 [.p L.bm,.i p] w [] (λv cs=>∃b,v= .tuple #[.slice (sA b) 64 64,.bool true]/\cs=[sl .u8 5 (sA b) 64 64 ((M.data.drop (p*64)).take 64)]):=by
 obtain⟨n1,n64,hdl,hdb,htl⟩:=mM h;obtain⟨k0,hr0,h1,h2,h3,h4⟩:=qH h;refine Zfs func138 ntmps138 ?_;refine Wq223 ?_;rintro _ _ ⟨_,⟨rfl,rfl⟩,rfl⟩;refine Z_4 ?_;refine cJ rfl (bR) (Z_4 ?_);refine fW (lC (bytes:=1) (n:=64) rfl rfl rfl rfl rfl rfl rfl Wq1 gq) rfl ?_;rintro _ _ ⟨b19,rfl,rfl⟩;rw[rG,<-Gf M.data (p*64) 64];refine fD ?_;refine bN (λk:Nat=>[(0,.p L.bm),(1,.i p),(6,.slice (sA b19) 64 64),(21,.i 64),(22,.i (k:Int))]) (λk=>[sl .u8 5 (sA b19) 64 64 (cpy M.data (p*64) 64 k)]) (λk=>k<=64) (λk=>64 - k) (0) ?_ ?_ ?_ ?_
 .omega
 .exact Zwk
 .exact Zu
 rintro k hk;refine Zw6 ?_ ?_<;>intro hc5
 .simp only[ae]at hc5;have hpk:p*64+k<L.n*64:=by omega
  refine sx ?_;refine Wq345 ?_;refine ZSe (λw hi=>zq L M (p*64+k) hpk w (bC.old h hi)) ?_;refine Wq79 ?_;rintro _ _ ⟨rfl,rfl⟩;rw[fR,Mx _ _ Wq1];refine gh ?_;refine dM (k+1) ?_ ?_ ?_
  .omega
  .exact Zwk
  exact Zu
 simp only[ac]at hc5;obtain rfl:k=64:=by omega
 rw[My Wq1];refine kM ?_;exact xH (cs':=[slv _ _ _ _ _ _]) (.inl rfl) Zu rfl rfl rfl ⟨b19,rfl,rfl⟩
theorem DE(L:eA)(M:Mem)(p:Nat)(hp:p<L.n)(A:Option Addr)(c:Nat)(l:List Int)(hl:l.length=64)(hb:u8s l)(w:World)(hi:Inv w (bD [eG L M]) [eG L M] w)(hrd:∀w',cY (bD [eG L M]) w w'->Rd w' .u8 A 64 c l):
  Ctr prog 288 [.p L.bm,.i p,.slice A 64 c] w [eG L M] (λv' cs=>v'= .bool true/\cs=[eG L (M.fill (p*64) l 64)]):=by
 obtain⟨n1,n64,hdl,hdb,htl⟩:=mM (hi.ok _ (List.mem_cons_self ..));have hrw:=hrd w (cY.refl _ _);obtain⟨ad,rfl⟩:=hrw.some_ Wq1;have hpg:∀w0 S cs w,Inv w0 S cs w->Has cs (eG L M)->Ctr prog 100 [.p L.bt] w [] (λv cs=>v= .i L.n/\cs=[]):=λw0 S cs w hi hc=>by
  obtain⟨k0,hr0,h1,h2,h3,h4⟩:=qH (hi.get hc);exact zE L.bt L.bp L.o L.bf L.bg L.n w h2
 have hcell:∀w,Inv w (bD [eG L M]) [eG L M] w->True:=λ_ _=>trivial
 refine Zfn func288 ntmps288 hi ?_;refine fB ?_;rw[ar (show¬(p:Int)<0 by omega)];refine Z_5 ?_;refine fN (bE rfl rfl) (bF Zrf (bU rfl)) (λw hi=>by obtain⟨k0,hr0,h1,h2,h3,h4⟩:=qH (hi.get (show Has _ (eG L M)from Zh));exact dc (cs:=[]) h4 (show(eY L M.RQ)[1]? =some (.p L.bt)from rfl) w (Inv.start w)) rfl (gU (bE rfl rfl) rfl (dW rfl (λ_ _=>rfl) (λw hi=>hpg _ _ _ w hi Zh)) rfl ?_);rintro _ _ ⟨_,⟨rfl,rfl⟩,rfl⟩;refine Z_9 ?_;refine cJ rfl (bR) (sw ?_);refine bN (λk:Nat=>[(0,.p L.bm),(1,.i p),(7,.bool true),(26,.slice (some ad) 64 c),(27,.i 64),(28,.i (k:Int))]) (λk=>[eG L (M.fill (p*64) l k)]) (λk=>k<=64) (λk=>64 - k) (0) ?_ ?_ ?_ ?_
 .omega
 .exact Zwk
 .exact Zu
 rintro k hk;refine Zw6 ?_ ?_<;>intro hc5
 .simp only[ae]at hc5;have hkl:k<l.length:=by omega
  have hbk:=kE hb k;refine Z_7 ?_;refine CS ?_;refine dK (bF Zrf Zv0) (qq hrd (cq (LV hkl))) rfl (Z_7 ?_);refine Wq345 ?_;refine ZA ?_;refine ZcM ([eG L (M.fill (p*64) l k)]) (λw hi hin=>zl L (M.fill (p*64) l k) (p*64+k) Wq1 (gB l k) hbk w hin) ?_;refine Z_8 ?_;refine Wq6 ?_;refine dM (k+1) ?_ ?_ ?_
  .omega
  .exact Zwk
  exact Zu
 simp only[ac]at hc5;obtain rfl:k=64:=by omega
 refine fD ?_;refine Zrb ([exC _ _ _ _]) ?_;exact fy
theorem N8(L:eA)(M:Mem)(A:Option Addr)(c:Nat)(l:List Int)(hl:l.length<=L.n*64)(hb:u8s l)(w:World)(hi:Inv w (bD [eG L M]) [eG L M] w)(hrd:∀w',cY (bD [eG L M]) w w'->Rd w' .u8 A l.length c l):
  Ctr prog 52 [.p L.bm,.slice A l.length c] w [eG L M] (λv' cs=>v'= .i 0/\cs=[eG L (M.fill 0 l l.length)]):=by
 obtain⟨n1,n64,hdl,hdb,htl⟩:=mM (hi.ok _ (List.mem_cons_self ..));have hrw:=hrd w (cY.refl _ _);refine Zfn func52 ntmps52 hi ?_;refine gK ?_;refine ZSe (λw hi=>oa L M w (hi.get Zh)) ?_;refine wO ?_;refine Z_3 ?_;refine cJ rfl ((ar Wq1)) (gK ?_);refine bN (λk:Nat=>[(0,.p L.bm),(13,.slice A l.length c),(14,.i l.length),(15,.i (k:Int))]) (λk=>[eG L (M.fill 0 l k)]) (λk=>k<=l.length) (λk=>l.length - k) (0) ?_ ?_ ?_ ?_
 .omega
 .exact Zwk
 .exact Zu
 rintro k hk;refine Zw6 ?_ ?_<;>intro hc4
 .simp only[ae]at hc4;have hkl:k<l.length:=by omega
  have hbk:=kE hb k;obtain⟨ad,rfl⟩:=hrw.some_ Wq1;refine Z_7 ?_;refine CS ?_;refine dK (bF Zrf Zv0) (qq hrd (cq (LV hkl))) rfl (Z_7 ?_);refine Zy (cQ rfl rfl (Zv rfl) (show IntKind.u32.wrap (k:Int)=((0+k:Nat):Int) by rw[u32_wrap_id _ Wq1 Wq1];omega)) ?_;refine ZA ?_;refine ZcM ([eG L (M.fill 0 l k)]) (λw hi hin=>zl L (M.fill 0 l k) (0+k) Wq1 (gB l k) hbk w hin) ?_;refine gh ?_;refine dM (k+1) ?_ ?_ ?_
  .omega
  .exact Zwk
  exact Zu
 simp only[ac]at hc4;obtain rfl:k=l.length:=by omega
 refine gK ?_;refine Zrb ([exC _ _ _ _]) ?_;exact fy
theorem rall_ok(L:eA)(M:Mem)(w:World)(h:(eG L M).ok w):Ctr prog 62 [.p L.bm] w [] (λv cs=>∃b,v= .slice (sA b) M.data.length M.data.length/\cs=[sl .u8 5 (sA b) M.data.length M.data.length M.data]):=by
 obtain⟨n1,n64,hdl,hdb,htl⟩:=mM h;rw[hdl];refine Zfs func62 ntmps62 ?_;refine Z_8 ?_;refine ZSe (λw hi=>oa L M w (bC.old h hi)) ?_;refine fW (lC (bytes:=1) (n:=L.n*64) rfl rfl rfl rfl rfl rfl rfl Wq1 gq) rfl ?_;rintro _ _ ⟨b7,rfl,rfl⟩;rw[rG,<-Gf M.data 0 (L.n*64)];refine fD ?_;refine bN (λk:Nat=>[(0,.p L.bm),(3,.slice (sA b7) (L.n*64) (L.n*64)),(9,.i (L.n*64:Nat)),(10,.i (k:Int))]) (λk=>[sl .u8 5 (sA b7) (L.n*64) (L.n*64) (cpy M.data 0 (L.n*64) k)]) (λk=>k<=L.n*64) (λk=>L.n*64 - k) (0) ?_ ?_ ?_ ?_
 .omega
 .exact Zwk
 .exact Zu
 rintro k hk;refine Zw6 ?_ ?_<;>intro hc3
 .simp only[ae]at hc3;have hpk:0+k<L.n*64:=by omega
  refine sx ?_;refine Zy (cQ rfl rfl (Zv rfl) (show IntKind.u32.wrap (k:Int)=((0+k:Nat):Int) by rw[u32_wrap_id _ Wq1 Wq1];omega)) ?_;refine ZSe (λw hi=>zq L M (0+k) hpk w (bC.old h hi)) ?_;refine Wq79 ?_;rintro _ _ ⟨rfl,rfl⟩;rw[fR,Mx _ _ Wq1];refine gh ?_;refine dM (k+1) ?_ ?_ ?_
  .omega
  .exact Zwk
  exact Zu
 simp only[ac]at hc3;obtain rfl:k=L.n*64:=by omega
 rw[My Wq1,List.drop_zero,List.take_of_length_le Wq1];refine fD ?_;refine Zrb ([slv _ _ _ _ _ _]) ?_;exact⟨b7,rfl,rfl⟩
theorem rD(L:eA)(M:Mem)(w:World)(h:(eG L M).ok w):Ctr prog 70 [.p L.bm] w [] (λv cs=>∃A c,v= .slice A (ii M.RQ 64).length c/\cs=[sl .i64 3 A (ii M.RQ 64).length c (ii M.RQ 64)]):=by
 obtain⟨n1,n64,hdl,hdb,htl⟩:=mM h;obtain⟨k0,hr0,h1,h2,h3,h4⟩:=qH h;refine Zfs func70 ntmps70 ?_;refine sw ?_;refine dK (bP (vs:=jA M.RQ) Zrf (λw=>by rw[lO,htl];rfl) (Zv rfl)) (tZ (o:=2) h4 BZ) rfl (cT 3 1 (Z_4 ?_));refine bN (λs:Nat×Option Addr×Nat=>[(0,.p L.bm),(3,.slice s.2.1 (ii M.RQ s.1).length s.2.2),(9,.agg (jA M.RQ).toArray),(10,.i (s.1:Int))]) (λs=>[sl .i64 3 s.2.1 (ii M.RQ s.1).length s.2.2 (ii M.RQ s.1)]) (λs=>s.1<=64) (λs=>64 - s.1) ((0,none,0)) ?_ ?_ ?_ ?_
 .omega
 .exact Zwk
 .exact Zu
 rintro⟨k,A1,c1⟩ hk;simp only at hk;dsimp only;refine Zw6 ?_ ?_<;>intro hc3
 .simp only[ae]at hc3;have hle:=NH M.RQ k;refine Z_7 ?_;refine Zy (yJ (j:=k) rfl Zrf Zrf (Zv rfl) (Zv rfl) Wq2 Wq2 (λ_=>Iv (show k<M.RQ.length by omega))) ?_;refine Zw9 ?_ ?_<;>intro hc5
  .have he:ii M.RQ (k+1)=ii M.RQ k++[(k:Int)]:=by rw[xv,hc5];rfl
   refine Z_3 ?_;refine kY ?_;rintro _ _ ⟨b17,rfl,rfl⟩;refine fW (cj (e:=3) (sz:=1) (bytes:=8) rfl rfl Za rfl rfl (λw hi=>hi.rd Zh) (mO rfl) gq Wq1) rfl ?_;rintro _ _ ⟨A2,c2,rfl,rfl⟩;rw[show(ii M.RQ k).length+1=(ii M.RQ (k+1)).length by grind,show ints .i64 (ii M.RQ k)++[Value.i (k:Int)]=ints .i64 (ii M.RQ (k+1)) by(rw[he];exact bX _ [_])];refine gv ?_;refine dM ((k+1,A2,c2)) ?_ ?_ ?_
   .omega
   .exact Zwk
   exact Zu
  have he:ii M.RQ (k+1)=ii M.RQ k:=by(rw[xv,hc5];simp)
  rw[<-he];refine gh ?_;refine dM ((k+1,A1,c1)) ?_ ?_ ?_
  .omega
  .exact Zwk
  exact Zu
 simp only[ac]at hc3;obtain rfl:k=64:=by omega
 refine fD ?_;exact IC
theorem Fs(L:eA)(M:Mem)(w:World)(hi:Inv w (bD [eG L M]) [eG L M] w):Ctr prog 141 [.p L.bm] w [eG L M] (λv cs=>v= .tuple #[]/\cs=[eG L M.calm]):=by
 refine ctr_E hi λk hr hi'=>?_
 have htl:=hr.tl;refine F3 func141 rfl ntmps141 rfl hi' ?_;unfold D2;refine Z_2 ?_;refine Zy (iF (vs:=List.replicate 64 (Value.bool false)) Zk (.inr ⟨_,_,_,rfl,λ_=>rfl⟩)) ?_;refine Z_2 ?_;refine eE (ki (n:=64) Zrf rfl rfl (λu hu=>by rw[List.eq_of_mem_replicate hu];rfl) Za (aE) (by rw[nm htl,aE];omega)) ?_;rintro _ _ ⟨rfl,rfl⟩;rw[aE,zM htl];refine Zn (iY (cs':=[row _ _ _,row _ _ _,slv _ _ _ _ _ _,slv _ _ _ _ _ _,row _ _ _]) (.inr rfl) Zu rfl ?_);exact⟨rfl,k,hr.calm,rfl⟩
theorem rnew_ok(bp bt:Nat)(w:World):Ctr prog 51 [.p bp,.p bt] w [] (λv cs=>∃bm,v= .tuple #[.p bm,.i 0]/\cs=[sQ ⟨bp,bt,0,0,bm,0,0,[],[],[]⟩ (List.replicate 64 false)]):=by
 refine Zfs func51 ntmps51 ?_;refine AG ?_;refine iU ?_;refine Z_7 ?_;refine ZO λb15=>?_
 refine Z_5 ?_;exact xH (cs':=[row _ _ _]) (.inl rfl) Zu rfl rfl rfl ⟨_,rfl,rfl⟩
structure TE where
 valid:Bool
 vpn:Int
 pfn:Int
 bits:Int
structure TE.wf(e:TE):Prop where
 vpn:u32 e.vpn
 pfn:u32 e.pfn
 bits:u32 e.bits
def TE.zero:TE:=⟨false,0,0,0⟩
def TE.cells(e:TE):List Value:=[.bool e.valid,.w e.vpn,.w e.pfn,.w e.bits]
def fq(T:List TE):List Value:=T.flatMap TE.cells
structure Tr where
 RN:Int
 addr:Int
def Tr.none:Tr:=⟨0,0⟩
abbrev Tr.cells(t:Tr):List Value:=[.i t.RN,.w t.addr]
abbrev Tr.v(t:Tr):Value:= .agg t.cells.toArray
abbrev TE.v(e:TE):Value:= .agg e.cells.toArray
theorem ix:∀T:List TE,(fq T).length=T.length*4
 |[]=>rfl
 |e::T=>by
  have:=ix T;simp only[fq]at this;simp[fq,TE.cells,this];omega
theorem mX:∀{T:List TE} {i:Nat} {e:TE},T[i]? =some e->((fq T).drop (i*4)).take 4=e.cells
 |[],i,e,h=>by simp at h
 |x::T,0,e,h=>by
  simp only[List.getElem?_cons_zero,aU]at h;subst h
  rfl
 |x::T,i+1,e,h=>by
  simp only[List.getElem?_cons_succ]at h;have:=mX h
  grind [fq,TE.cells]
theorem mW:∀{T:List TE} {i:Nat} (e:TE),i<T.length->(fq T).take (i*4)++e.cells++(fq T).drop (i*4+4)=fq (T.set i e)
 |[],i,e,h=>by simp at h
 |x::T,0,e,_=>by simp[fq,TE.cells]
 |x::T,i+1,e,h=>by
  have ih:=mW (T:=T) (i:=i) e bR
  grind [fq,TE.cells]
def xO(b:Int)(RM:Bool):Int:=bif RM then b else bits .or .u32 b 16
def asked(kind:Int)(RM:Bool):Int×Bool:=
 bif kind==1 then(xO 8 RM,true)else bif kind==2 then(xO 2 RM,true)else bif kind==3 then(xO 68 RM,true)else(0,false)
def fault(kind:Int):Int:=bif kind==1 then 7 else bif kind==2 then 8 else bif kind==3 then 9 else 0
def GG(kind:Int)(RM:Bool):Int:=
 xO (bif kind==1 then bits .or .u32 1 8 else bif kind==2 then bits .or .u32 1 2 else bif kind==3 then bits .or .u32 1 4 else 1) RM
def EZ(T:List TE)(va:Nat):TE:=T.getD (va/64%16) TE.zero
def po(e:TE)(va:Nat)(a:Int×Bool):Bool:=((!a.2|| !e.valid)||(e.vpn !=((va/64:Nat):Int)))||(bits .and .u32 e.bits a.1 !=a.1)
def sN(pfn:Int)(va:Nat):Int:=IntKind.u32.wrap (IntKind.u32.wrap (pfn*64)+((va%64:Nat):Int))
def wU(T:List TE)(va:Nat)(kind:Int)(RM:Bool):Int×Bool:=
 bif po (EZ T va) va (asked kind RM)then(0,false)else(sN (EZ T va).pfn va,true)
def JH(T:List TE)(e:TE):List TE:=bif e.valid then T.set (e.vpn.toNat%16) e else T
def wV(T:List TE)(va:Nat):List TE:=bif(EZ T va).vpn==((va/64:Nat):Int)then T.set (va/64%16) TE.zero else T
def eB:List TE:=List.replicate 16 TE.zero
def kJ(n:Nat)(d:List Int)(a:Nat):Option Int:=bif decide (a+4<=n*64)then some (uB d a)else none
def at1(root va:Nat):Nat:=root/64*64+4*(va/1024%16)
def at2(e:Int)(va:Nat):Nat:=(e/256).toNat*64+4*(va/64%16)
def D6(n:Nat)(d:List Int)(va:Nat)(e:Int):Option (Nat×Int):=
 bif e%2==0 then none else(kJ n d (at2 e va)).map λl=>(at2 e va,l)
def nv(n:Nat)(d:List Int)(root va:Nat):Option (Nat×Int):=
 bif decide (16384<=va)then none else(kJ n d (at1 root va)).bind (D6 n d va)
def lookV(r:Option (Nat×Int)):Value:=match r with|some (a,l)=> .tuple #[.w a,.w l,.bool true]|none=> .tuple #[.w 0,.w 0,.bool false]
def oR(l:Int)(kind:Int):Int:=bif kind==3 then bits .or .u32 (bits .or .u32 l 32) 64 else bits .or .u32 l 32
def leafE(va:Nat)(l:Int):TE:=⟨true,((va/64:Nat):Int),l/256,bits .and .u32 l 94⟩
def gQ(n:Nat)(M:Mem)(root va:Nat)(kind:Int)(RM:Bool):(TE×Tr)×Mem:=
 bif fault kind==0 then((TE.zero,⟨10,va⟩),M)else
 match nv n M.data root va with
 |none=>((TE.zero,⟨fault kind,va⟩),M)
 |some (a,l)=>bif bits .and .u32 l (GG kind RM) !=GG kind RM then((TE.zero,⟨fault kind,va⟩),M)else
   ((leafE va (oR l kind),Tr.none),bif oR l kind !=l then M.Sz a (oR l kind)else M)
structure Mmu where
 m:Mem
 t:List TE
structure Sp where
 RW:Bool
 RM:Bool
 root:Nat
abbrev Sp.v(s:Sp):Value:= .agg #[.bool s.RW,.bool s.RM,.w (s.root:Int)]
def cU(n:Nat)(U:Mmu)(s:Sp)(va:Nat)(kind:Int):(Int×Tr)×Mmu:=
 bif !s.RW then(((va:Int),Tr.none),U)else
 bif(wU U.t va kind s.RM).2 then(((wU U.t va kind s.RM).1,Tr.none),U)else
 bif(gQ n U.m s.root va kind s.RM).1.2.RN !=0 then((0,(gQ n U.m s.root va kind s.RM).1.2),⟨(gQ n U.m s.root va kind s.RM).2,U.t⟩)else
 ((sN (gQ n U.m s.root va kind s.RM).1.1.pfn va,(gQ n U.m s.root va kind s.RM).1.2),⟨(gQ n U.m s.root va kind s.RM).2,JH U.t (gQ n U.m s.root va kind s.RM).1.1⟩)
def tB(a:Int):Bool:=decide (32768<=a)&&decide (a<33024)
def cG(n:Nat)(U:Mmu)(s:Sp)(va:Nat)(kind:Int):(Int×Tr)×Mmu:=
 bif fault kind==0 then((0,⟨10,va⟩),U)else
 bif(cU n U s va kind).1.2.RN !=0 then((0,(cU n U s va kind).1.2),(cU n U s va kind).2)else
 bif(decide ((cU n U s va kind).1.1<((n*64:Nat):Int))||((kind !=1)&&tB (cU n U s va kind).1.1))then cU n U s va kind else((0,⟨10,va⟩),(cU n U s va kind).2)
abbrev uS(bb:Nat)(T:List TE):bC:=row bb (fq T) 191
theorem tX(v:Nat)(w:World):Ctr prog 216 [.w v] w [] (λx cs=>x= .w (v%16:Nat)/\cs=[]):=by
 refine Zfs func216 ntmps216 ?_;refine Z_8 ?_;refine Zy (i4 (Zv rfl) (Zv rfl) Wq1 (show _=((v%16:Nat):Int)from by grind)) ?_;exact mF
theorem JJ(kind:Int)(RM:Bool)(w:World):Ctr prog 217 [.i kind,.bool RM] w [] (λx cs=>x= .tuple #[.w (asked kind RM).1,.bool (asked kind RM).2]/\cs=[]):=by
 refine Zfs func217 ntmps217 ?_;refine kX ?_;refine Z_4 ?_;refine ZW ?_ ?_<;>intro hc4
 .refine fD ?_;refine ZW ?_ ?_<;>intro hc10
  .have hs:RM=false:=by simpa using hc10
   refine iT ?_;refine mQ ?_;refine⟨?_,rfl⟩;exact EG
  have hs:RM=true:=by simpa using hc10
  refine fB ?_;refine mQ ?_;refine⟨?_,rfl⟩;exact EG
 refine Zw6 ?_ ?_<;>intro hc6
 .refine fD ?_;refine ZW ?_ ?_<;>intro hc10
  .have hs:RM=false:=by simpa using hc10
   refine iT ?_;refine mQ ?_;refine⟨?_,rfl⟩;exact EG
  have hs:RM=true:=by simpa using hc10
  refine fB ?_;refine mQ ?_;refine⟨?_,rfl⟩;exact EG
 refine Zw6 ?_ ?_<;>intro hc8
 .refine fD ?_;refine ZW ?_ ?_<;>intro hc10
  .have hs:RM=false:=by simpa using hc10
   refine iT ?_;refine mQ ?_;refine⟨?_,rfl⟩;exact EG
  have hs:RM=true:=by simpa using hc10
  refine fB ?_;refine mQ ?_;refine⟨?_,rfl⟩;exact EG
 refine Z_9 ?_;refine mQ ?_;refine⟨?_,rfl⟩;exact EG
theorem JB(w:World):Ctr prog 84 [] w [] (λx cs=>∃bb,x= .p bb/\cs=[uS bb eB]):=by
 refine Zfs func84 ntmps84 ?_;refine Z_7 ?_;refine Zy (iF (vs:=fq eB) Zk (.inl ⟨_,rfl,rfl⟩)) ?_;refine ZO λb2=>?_
 exact Qr
theorem NP(bb:Nat)(T:List TE)(hT:T.length=16)(va:Nat)(hva:va<=4294967295)(kind:Int)(RM:Bool)(w:World)(h:(uS bb T).ok w):Ctr prog 173 [.p bb,.w va,.i kind,.bool RM] w [] (λx cs=>x= .tuple #[.w (wU T va kind RM).1,.bool (wU T va kind RM).2]/\cs=[]):=by
 have hlt:va/64%16<T.length:=by omega
 have he:T[va/64%16]? =some (EZ T va):=by simp[EZ,hlt]
 obtain⟨e,hee⟩:=Zgn (EZ T va);obtain⟨a,ha⟩:=Zgn (asked kind RM);have hA:=JJ kind RM;unfold wU;rw[hee]at he|-;rw[ha]at hA|-;refine Zfs func173 ntmps173 ?_;refine Z_9 ?_;refine Zy (k8 (Zv rfl) (Zv rfl) Wq1 (show _=((va/64:Nat):Int)from by rw[bo Wq1,u32_wrap_id _ Wq1 Wq1];omega)) ?_;refine Z_4 ?_;refine bL ⟨λj=>List.elem j [8],[]⟩ Zk (lU ?_);refine ZE 3 ?_;refine ZFe 4 0 ?_;refine ke 2 7 Zk ?_ ?_
 .refine ZTn (λw hi=>tX (va/64) w) ?_;rintro _ _ ⟨rfl,rfl⟩;refine Wq276 ?_;refine cn 7 Zk ?_;refine ZP λb11=>?_
  refine cn 8 Zk (ZR ?_);refine eQ ?_;refine Z_5 ?_;refine ZSe (λw hi=>hA w) ?_;refine kX ?_;refine uw ?_ ?_<;>intro hc4
  .have hc:po e va a=true:=hc4;refine Z_8 ?_;refine mQ ?_;rw[hc];exact fy
  have hc:po e va a=false:=hc4;refine Z_6 ?_;refine Zy (jR Zv0 Zv0 rfl) ?_;refine ZA ?_;exact Wq323
 refine ZP λb11=>?_
 refine cn 2 Zk (ZTn (λw hi=>tX (va/64) w) ?_);rintro _ _ ⟨rfl,rfl⟩;refine Wq276 ?_;refine cn 8 Zk (ZR ?_);refine eQ ?_;refine Z_5 ?_;refine ZSe (λw hi=>hA w) ?_;refine kX ?_;refine uw ?_ ?_<;>intro hc4
 .have hc:po e va a=true:=hc4;refine Z_8 ?_;refine mQ ?_;rw[hc];exact fy
 have hc:po e va a=false:=hc4;refine Z_6 ?_;refine Zy (jR Zv0 Zv0 rfl) ?_;refine ZA ?_;exact Wq323
theorem NQ(bb:Nat)(T:List TE)(hT:T.length=16)(e:TE)(he:e.wf)(w:World)(hi:Inv w (bD [uS bb T]) [uS bb T] w):Ctr prog 175 [.p bb,e.v] w [uS bb T] (λx cs=>x= .bool e.valid/\cs=[uS bb (JH T e)]):=by
 obtain⟨v0,v1⟩:=he.vpn;obtain⟨vp,hvp⟩:=ap v0;obtain⟨ev,evpn,epfn,eb⟩:=e;simp only at hvp v0 v1;subst hvp;refine Zfn func175 ntmps175 hi ?_;refine Z_2 ?_;refine ZO λb3=>?_;refine pV ?_ ?_<;>intro hc1
 .have hv:ev=true:=hc1;subst hv;refine bL ⟨λj=>List.elem j [8],[]⟩ Zk (ZE 0 ?_);refine ZFe 1 1 ?_;refine ZG 2 ?_;refine ZI 4 ?_;refine ZE 5 ?_;refine ZFe 6 0 ?_;refine cn 3 Zk (ZTn (λw hi=>tX vp w) ?_);rintro _ _ ⟨rfl,rfl⟩;refine Zy4 7 rfl (dE (j:=(vp%16)) (sz:=4) (r:=(vp%16)*4) rfl Zrf (Zv rfl) (Zv rfl) (λ_=>by omega) (λ_=>by omega) (by omega)) ?_;refine cn 8 Zk (fO rfl rfl (ki (n:=4) (vs:=TE.cells ⟨true,(vp:Int),epfn,eb⟩) Zrf rfl rfl (mO rfl) Za rfl (by rw[ix];simp only[TE.cells,aQ,List.length_nil];omega)) ZJ ?_);rintro _ _ ⟨rfl,rfl⟩;rw[show(TE.cells ⟨true,(vp:Int),epfn,eb⟩).length=4 from rfl,mW (T:=T) (i:=vp%16) ⟨true,(vp:Int),epfn,eb⟩ (by omega)];refine eQ ?_;refine Z_9 ?_;exact AI
 have hv:ev=false:=hc1;subst hv;refine fB ?_;exact AI
theorem NR(bb:Nat)(T:List TE)(hT:T.length=16)(va:Nat)(hva:va<=4294967295)(w:World)(hi:Inv w (bD [uS bb T]) [uS bb T] w):Ctr prog 261 [.p bb,.w va] w [uS bb T] (λx cs=>x= .tuple #[]/\cs=[uS bb (wV T va)]):=by
 have hlt:va/64%16<T.length:=by omega
 have he:T[va/64%16]? =some (EZ T va):=by simp[EZ,hlt]
 have hcell:(fq T)[(va/64%16)*4+1]? =some (.w (EZ T va).vpn):=by
  have h1:=mX he;have h2:(((fq T).drop ((va/64%16)*4)).take 4)[1]? =some (.w (EZ T va).vpn):=by rw[h1];rfl
  rw[List.getElem?_take,if_pos (by omega),List.getElem?_drop]at h2;exact h2
 unfold wV;obtain⟨e,hee⟩:=Zgn (EZ T va);rw[hee]at hcell|-;refine Zfn func261 ntmps261 hi ?_;refine Z_3 ?_;refine Zy (k8 (Zv rfl) (Zv rfl) (by omega) (show _=((va/64:Nat):Int)from by rw[bo (by omega),u32_wrap_id _ (by omega) (by omega)];omega)) ?_;refine Z_4 ?_;refine Dd ?_;refine ZE 3 ?_;refine ZFe 4 0 ?_;refine cn 2 Zk (ZTn (λw hi=>tX (va/64) w) ?_);rintro _ _ ⟨rfl,rfl⟩;refine Zy4 5 rfl (dE (j:=(va/64%16)) (sz:=4) (r:=(va/64%16)*4) rfl Zrf (Zv rfl) (Zv rfl) (λ_=>by omega) (λ_=>by omega) (by omega)) ?_;refine ZE 6 ?_;refine eQ ?_;refine Z_6 ?_;refine dK (bF Zrf Zv0) (cN Zh hcell) rfl (Z_4 ?_);refine ZW ?_ ?_<;>intro hc2
 .rw[hc2];refine Z_4 ?_;refine eE (ki (n:=4) (vs:=TE.zero.cells) Zrf rfl rfl (mO rfl) Za rfl (by rw[ix];simp only[TE.cells,aQ,List.length_nil];omega)) ?_;rintro _ _ ⟨rfl,rfl⟩;rw[show TE.zero.cells.length=4 from rfl,mW (T:=T) TE.zero hlt];refine Zn (iY (cs':=[row _ _ _]) (.inr rfl) Zu rfl ?_);exact fy
 rw[hc2];refine Zc (iY (cs':=[row _ _ _]) (.inr rfl) Zu rfl ?_);exact fy
theorem JF(bb:Nat)(T:List TE)(hT:T.length=16)(w:World)(hi:Inv w (bD [uS bb T]) [uS bb T] w):Ctr prog 260 [.p bb] w [uS bb T] (λx cs=>x= .tuple #[]/\cs=[uS bb eB]):=by
 refine Zfn func260 ntmps260 hi ?_;refine Z_2 ?_;refine Zy (iF (vs:=fq eB) Zk (.inr ⟨_,_,_,rfl,λ_=>rfl⟩)) ?_;refine Z_2 ?_;refine eE (ki (n:=64) Zrf rfl rfl (mO Zk) Za Zk (by rw[ix,ix,hT];decide)) ?_;rintro _ _ ⟨rfl,rfl⟩;rw[show(fq eB).length=64 by kernel_rfl,List.take_zero,aP,List.drop_eq_nil_of_le (by rw[ix,hT];decide),az];refine Zn (iY (cs':=[row _ _ _]) (.inr rfl) Zu rfl ?_);exact fy
theorem F7(kind:Int)(w:World):Ctr prog 151 [.i kind] w [] (λx cs=>x= .i (fault kind)/\cs=[]):=by
 refine Zfs func151 ntmps151 ?_;refine AO ?_;refine ZW ?_ ?_<;>intro hc2
 .refine gf ?_;refine⟨?_,rfl⟩;simp only[fault, *,ai,ah]
 refine Zw6 ?_ ?_<;>intro hc4
 .refine gf ?_;refine⟨?_,rfl⟩;simp only[fault, *,ai,ah]
 refine Zw6 ?_ ?_<;>intro hc6
 .refine gf ?_;refine⟨?_,rfl⟩;simp only[fault, *,ai,ah]
 refine ls ?_;refine⟨?_,rfl⟩;simp only[fault, *,ai,ah]
theorem NA(kind:Int)(RM:Bool)(w:World):Ctr prog 218 [.i kind,.bool RM] w [] (λx cs=>x= .w (GG kind RM)/\cs=[]):=by
 refine Zfs func218 ntmps218 ?_;refine kX ?_;refine Zw3 ?_ ?_<;>intro hc3
 .refine AN ?_ ?_<;>intro hc9
  .have hs:RM=false:=by simpa using hc9
   refine kM ?_;refine Zra ?_;refine⟨?_,rfl⟩;exact CU
  have hs:RM=true:=by simpa using hc9
  refine ls ?_;refine⟨?_,rfl⟩;exact CU
 refine Zw6 ?_ ?_<;>intro hc5
 .refine AN ?_ ?_<;>intro hc9
  .have hs:RM=false:=by simpa using hc9
   refine kM ?_;refine Zra ?_;refine⟨?_,rfl⟩;exact CU
  have hs:RM=true:=by simpa using hc9
  refine ls ?_;refine⟨?_,rfl⟩;exact CU
 refine Zw6 ?_ ?_<;>intro hc7
 .refine AN ?_ ?_<;>intro hc9
  .have hs:RM=false:=by simpa using hc9
   refine kM ?_;refine Zra ?_;refine⟨?_,rfl⟩;exact CU
  have hs:RM=true:=by simpa using hc9
  refine ls ?_;refine⟨?_,rfl⟩;exact CU
 refine pV ?_ ?_<;>intro hc9
 .have hs:RM=false:=by simpa using hc9
  refine kM ?_;refine Zra ?_;refine⟨?_,rfl⟩;exact CU
 have hs:RM=true:=by simpa using hc9
 refine ls ?_;refine⟨?_,rfl⟩;exact CU
theorem and1{v:Int}(h:u32 v):bits .and .u32 v 1=v%2:=bits_mask .u32 32 Wq7 wraps_u32 1 Wq7 v h.1 (by have:=h.2;omega)
theorem MO{v:Int}(h:u32 v):bits .and .u32 v 15=v%16:=bits_mask .u32 32 Wq7 wraps_u32 4 Wq7 v h.1 (by have:=h.2;omega)
theorem shrE(a:Int)(n:Nat):a.fdiv (2^n)=a/2^n:=by grind
theorem CQ(v:Nat)(h:v<=4294967295):bits .andNot .u32 (v:Int) 63=((v/64*64:Nat):Int):=by
 show IntKind.u32.wrap (((BitVec.ofInt 32 (v:Int))&&& ~~~ (BitVec.ofInt 32 63)).toNat:Int)=_;have e1:(BitVec.ofInt 32 (v:Int)).toNat=v:=by rw[BitVec.ofInt_natCast,BitVec.toNat_ofNat];exact Nat.mod_eq_of_lt Wq1
 have h1:v&&&4294967232=(v/64)*64:=by
  apply Nat.eq_of_testBit_eq;intro i;have e:(4294967232:Nat)=(2^26 - 1)*2^6:=by decide
  rw[e,Nat.testBit_and,show(v/64)*64=(v/2^6)*2^6 from rfl];rw[Nat.testBit_mul_two_pow,Nat.testBit_mul_two_pow,Nat.testBit_two_pow_sub_one,Nat.testBit_div_two_pow];by_cases hi:6<=i
  .simp only[hi,decide_true,Bool.true_and,show i - 6+6=i by omega];by_cases h26:i - 6<26
   .simp[h26]
   have:v.testBit i=false:=Nat.testBit_lt_two_pow (Nat.lt_of_lt_of_le (show v<2^32 by omega) (Nat.pow_le_pow_right Wq1 Wq1));simp[this]
  simp[hi]
 grind [u32_wrap_id]
def Rq(o:Option Int):Value:=match o with|some e=> .tuple #[.w e,.bool true]|none=> .tuple #[.w 0,.bool false]
theorem pF{n:Nat}{d:List Int}{a:Nat}{e:Int}(h:u8s d)(he:kJ n d a=some e):u32 e/\a+4<=n*64:=by
 grind [kJ,xj]
theorem K6{n:Nat}{d:List Int}{root va a:Nat}{l:Int}(h:u8s d)(hl:nv n d root va=some (a,l)):u32 l/\a+4<=n*64:=by
 unfold nv at hl;cases hc:decide (16384<=va)with
 |true=>grind
 |false=>
  rw[hc]at hl;simp only[ah]at hl;obtain⟨e,h1,h2⟩:=Option.bind_eq_some_iff.1 hl;unfold D6 at h2;cases hc2:(e%2==0)with
  |true=>grind
  |false=>
   rw[hc2]at h2;simp only[ah]at h2;obtain⟨l',h3,h4⟩:=Option.map_eq_some_iff.1 h2;simp only[aX]at h4;obtain⟨rfl,rfl⟩:=h4;exact pF h h3
theorem iS(op:BinOp)(a b:Int):u32 (bits op .u32 a b):=by
 cases op<;>exact⟨by show 0<=IntKind.u32.wrap _;rw[aC];omega,by show IntKind.u32.wrap _<=_;rw[aC];omega⟩
theorem xS(l:Int)(kind:Int):u32 (oR l kind):=by
 grind [oR,iS]
theorem Gc(L:eA)(M:Mem)(a:Nat)(ha:a<=4294967295000)(w:World)(h:(eG L M).ok w):Ctr prog 262 [.p L.bm,.int .u64 a] w [] (λv cs=>v=Rq (kJ L.n M.data a)/\cs=[]):=by
 obtain⟨n1,n64,hdl,hdb,htl⟩:=mM h;refine Zfs func262 ntmps262 ?_;refine gK ?_;refine ZSe (λw hi=>oa L M w (bC.old h hi)) ?_;refine tJ ?_;refine Zw3 ?_ ?_<;>intro hc1
 .simp only[ae]at hc1;have hc:decide (a+4<=L.n*64)=false:=ar Wq1
  refine Z_8 ?_;refine mQ ?_;unfold Rq kJ;rw[hc];exact fy
 simp only[ac]at hc1;refine Z_3 ?_;refine(Bool.eq_false_or_eq_true (decide (a+4<=L.n*64))).elim (λh0=>?_) (λh0=>?_)
 .refine Z_3 ?_;refine Zy (cQ rfl rfl (Zv rfl) (u32_wrap_id _ Wq1 Wq1)) ?_;refine ZSe (λw hi=>zh L M a Wq1 w (bC.old h hi)) ?_;unfold Rq kJ Dg;rw[h0];simp only[ai];refine Z_7 ?_;exact lQ
 refine Z_3 ?_;refine Zy (cQ rfl rfl (Zv rfl) (u32_wrap_id _ Wq1 Wq1)) ?_;refine ZSe (λw hi=>zh L M a Wq1 w (bC.old h hi)) ?_;unfold Rq kJ Dg;rw[h0];refine iw ?_;refine Z_7 ?_;exact lQ
theorem look_ok(L:eA)(M:Mem)(root va:Nat)(hroot:root<=4294967295)(hva:va<=4294967295)(w:World)(h:(eG L M).ok w):Ctr prog 219 [.p L.bm,.w root,.w va] w [] (λv cs=>v=lookV (nv L.n M.data root va)/\cs=[]):=by
 obtain⟨n1,n64,hdl,hdb,htl⟩:=mM h;obtain⟨e1,he1⟩:=Zgn (kJ L.n M.data (at1 root va));have HE1:=Gc L M (at1 root va) (by unfold at1;omega);rw[he1]at HE1;refine Zfs func219 ntmps219 ?_;refine AO ?_;refine ZW ?_ ?_<;>intro hc1
 .have hc:decide (16384<=va)=true:=by(have h0:(16384:Int)<=va:=by simpa using hc1);exact ay Wq1
  have hl:nv L.n M.data root va=none:=by(unfold nv;rw[hc];rfl)
  rw[hl];refine Z_9 ?_;refine MT ?_;exact fy
 have hlt:va<16384:=by(have h0:¬(16384:Int)<=va:=by simpa using hc1);omega
 have hl:nv L.n M.data root va=e1.bind (D6 L.n M.data va):=by(unfold nv;grind)
 rw[hl];refine Z_3 ?_;revert HE1 he1;refine Option.rec (λhe1 HE1=>?_) (λe he1 HE1=>?_) e1
 .refine Z_3 ?_;refine Zy (tO Zv0 Zv0 (CQ root hroot)) ?_;refine tJ ?_;refine ZA ?_;refine Wq106 ?_;refine ZSe (λw hi=>HE1 w (bC.old h hi)) ?_;simp only[Rq];refine IB ?_;refine oU ?_;refine Z_9 ?_;refine MT ?_;exact fy
 refine Z_3 ?_;refine Zy (tO Zv0 Zv0 (CQ root hroot)) ?_;refine tJ ?_;refine ZA ?_;refine Wq106 ?_;refine ZSe (λw hi=>HE1 w (bC.old h hi)) ?_;simp only[Rq];refine fB ?_;have heu:=(pF hdb he1).1;obtain⟨eu0,eu1⟩:=heu;refine Z_4 ?_;refine Zyn rfl rfl (sH (bU rfl) Zv0 (and1 ⟨eu0,eu1⟩)) ?_;refine Z_4 ?_;refine ZW ?_ ?_<;>intro hc4
 .have hc:(e%2==0)=true:=hc4;have hl2:(some e).bind (D6 L.n M.data va)=none:=by(simp only[Option.bind_some];unfold D6;rw[hc];rfl)
  rw[hl2];refine Z_9 ?_;refine MT ?_;exact fy
 have hc:(e%2==0)=false:=hc4;have hl2:(some e).bind (D6 L.n M.data va)=(kJ L.n M.data (at2 e va)).map λl=>(at2 e va,l):=by(simp only[Option.bind_some];unfold D6;rw[hc];rfl)
 rw[hl2];obtain⟨e2,he2⟩:=Zgn (kJ L.n M.data (at2 e va));have HE2:=Gc L M (at2 e va) (by unfold at2;omega);rw[he2]at HE2|-;have hat:((at2 e va:Nat):Int)=e/256*64+4*((va/64%16:Nat):Int):=(by unfold at2;omega);refine Z_5 ?_;refine Zy (lW (Zv rfl) (Zv rfl) Wq1 (show _=e/256 from shrE _ 8)) ?_;refine tJ ?_;refine Zy (jR (Zv rfl) (Zv rfl) (show _=e/256*64 from u64_wrap_id _ Wq1 Wq1)) ?_;refine ZA ?_;refine Zy (lW (Zv rfl) (Zv rfl) Wq1 (show _=((va/64:Nat):Int)from(shrE _ 6).trans Wq1)) ?_;refine Zy (sH (Zv rfl) (Zv rfl) (show _=((va/64%16:Nat):Int)from(MO ⟨by omega,by omega⟩).trans Wq1)) ?_;refine Zy (jR (Zv rfl) (Zv rfl) (show _=((4*(va/64%16):Nat):Int)from(u32_wrap_id _ Wq1 Wq1).trans Wq1)) ?_;refine tJ ?_;refine Zy (ef (Zv rfl) (Zv rfl) (show _=((at2 e va:Nat):Int)from(u64_wrap_id _ Wq1 Wq1).trans Wq1)) ?_;refine Z_4 ?_;revert HE2 he2;refine Option.rec (λhe2 HE2=>?_) (λl he2 HE2=>?_) e2
 .refine Z_3 ?_;refine ZSe (λw hi=>HE2 w (bC.old h hi)) ?_;simp only[Rq];refine iT ?_;refine oU ?_;refine Z_9 ?_;refine MT ?_;exact fy
 refine Z_3 ?_;refine ZSe (λw hi=>HE2 w (bC.old h hi)) ?_;simp only[Rq];refine iT ?_;refine iU ?_;refine Z_4 ?_;have h2in:=(pF hdb he2).2;refine ZA ?_;refine Zy (cQ rfl rfl (Zv rfl) (u32_wrap_id _ Wq1 Wq1)) ?_;refine Z_7 ?_;refine MT ?_;exact fy
theorem wdo_ok(L:eA)(M:Mem)(root va:Nat)(hroot:root<=4294967295)(hva:va<=4294967295)(kind:Int)(RM:Bool)(w:World)(hi:Inv w (bD [eG L M]) [eG L M] w):
  Ctr prog 174 [.p L.bm,.w root,.w va,.i kind,.bool RM] w [eG L M] (λv cs=>v= .tuple #[(gQ L.n M root va kind RM).1.1.v,(gQ L.n M root va kind RM).1.2.v]/\cs=[eG L (gQ L.n M root va kind RM).2]):=by
 obtain⟨n1,n64,hdl,hdb,htl⟩:=mM (hi.ok _ (List.mem_cons_self ..));obtain⟨fk,hfk⟩:=Zgn (fault kind);obtain⟨wb,hwb⟩:=Zgn (GG kind RM);obtain⟨lk,hlk⟩:=Zgn (nv L.n M.data root va);have HF:=F7 kind;have HB:=NA kind RM;have HL:=look_ok L M root va hroot hva;unfold gQ;rw[hfk]at HF|-;rw[hwb]at HB|-;rw[hlk]at HL|-;refine Zfn func174 ntmps174 hi ?_;refine Z_2 ?_;refine ZN λb10=>?_;refine ZN λb11=>?_
 refine Z_5 ?_;refine ZSe (λw hi=>HF w) ?_;refine AN ?_ ?_<;>intro hc2
 .have hc:(fk==0)=true:=hc2;rw[hc];simp only[ai];refine Z_5 ?_;refine ZM ?_;refine iD ?_;exact Wq86
 have hc:(fk==0)=false:=hc2;rw[hc];refine iw ?_;refine Z_6 ?_;refine ZSe (λw hi=>HB w) ?_;refine Z_4 ?_;revert HL hlk;refine Option.rec (λhlk HL=>?_) (λal hlk HL=>?_) lk
 .refine Z_4 ?_;refine ZSe (λw hi=>HL w (hi.get Zh)) ?_;simp only[lookV];refine kX ?_;refine Z_3 ?_;refine oU ?_;refine Z_6 ?_;refine ZM ?_;refine iD ?_;exact Wq86
 obtain⟨a,l⟩:=al;have hin:=K6 hdb hlk;obtain⟨lu,ain⟩:=hin;obtain⟨lu0,lu1⟩:=lu;have mu:=xS l kind;simp only;refine Z_4 ?_;refine ZSe (λw hi=>HL w (hi.get Zh)) ?_;simp only[lookV];refine kX ?_;refine Zw3 ?_ ?_<;>intro hc6
 .have hc6':(bits .and .u32 l wb !=wb)=true:=hc6;rw[hc6'];simp only[ai];refine Z_6 ?_;refine ZM ?_;refine iD ?_;exact Wq86
 have hc6':(bits .and .u32 l wb !=wb)=false:=hc6;rw[hc6'];refine iw ?_;refine kX ?_;refine Z_2 ?_;refine ZW ?_ ?_<;>intro hc10
 .have hm:oR l kind=bits .or .u32 (bits .or .u32 l 32) 64:=by(unfold oR;grind)
  rw[hm]at mu|-;obtain⟨m,hmm⟩:=Zgn (bits .or .u32 (bits .or .u32 l 32) 64);refine Z_9 ?_;rw[hmm]at mu|-;refine Zw5 ?_ ?_<;>intro hc12
  .rw[hc12];simp only[ai];refine Z_4 ?_;refine ZcM ([eG L M]) (λw hi hin=>pe L M a m ain mu w hin) ?_;refine Wq65 ?_;refine ZM ?_;refine mD ?_;exact Wq86
  rw[hc12];refine iw ?_;refine Wq65 ?_;refine ZM ?_;refine mD ?_;exact Wq86
 have hm:oR l kind=bits .or .u32 l 32:=by(unfold oR;grind)
 rw[hm]at mu|-;obtain⟨m,hmm⟩:=Zgn (bits .or .u32 l 32);refine Z_5 ?_;rw[hmm]at mu|-;refine Zw5 ?_ ?_<;>intro hc12
 .rw[hc12];simp only[ai];refine Z_4 ?_;refine ZcM ([eG L M]) (λw hi hin=>pe L M a m ain mu w hin) ?_;refine Wq65 ?_;refine ZM ?_;refine mD ?_;exact Wq86
 rw[hc12];refine iw ?_;refine Wq65 ?_;refine ZM ?_;refine mD ?_;exact Wq86
theorem Pc{va:Nat}(h:va<=4294967295){l:Int}(hl:u32 l):(leafE va l).wf:=
 ⟨⟨by show(0:Int)<=((va/64:Nat):Int);omega,by show((va/64:Nat):Int)<=_;omega⟩,⟨by show 0<=l/256;have:=hl.1;omega,by show l/256<=_;have:=hl.1;have:=hl.2;omega⟩,iS .and _ _⟩
theorem TE.zero_wf:TE.zero.wf:=⟨⟨by decide,by decide⟩,⟨by decide,by decide⟩,⟨by decide,by decide⟩⟩
theorem Jh(n:Nat)(M:Mem)(root va:Nat)(h:va<=4294967295)(kind:Int)(RM:Bool):(gQ n M root va kind RM).1.1.wf:=by
 grind [gQ,fault,TE.zero_wf,bits,GG,Pc,xS]
theorem JG(T:List TE)(e:TE):(JH T e).length=T.length:=by grind [JH]
theorem JI(T:List TE)(va:Nat):(wV T va).length=T.length:=by grind [wV,EZ]
theorem Bk(n:Nat)(U:Mmu)(s:Sp)(va:Nat)(kind:Int):(cU n U s va kind).2.t.length=U.t.length:=by
 grind [cU,wU,gQ,JG]
theorem vi(n:Nat)(U:Mmu)(s:Sp)(va:Nat)(kind:Int):(cG n U s va kind).2.t.length=U.t.length:=by
 grind [Bk,cG,fault,cU,tB]
abbrev IX(bu bm bb:Nat):bC:=row bu [.p bm,.p bb] 158
abbrev uF(bu bb:Nat)(L:eA)(U:Mmu):List bC:=[IX bu L.bm bb,eG L U.m,uS bb U.t]
theorem wk(a:Int)(w:World):Ctr prog 153 [.w a] w [] (λv cs=>v= .bool (tB a)/\cs=[]):=by
 refine Zfs func153 ntmps153 ?_;refine AG ?_;exact pM
theorem KO(bm:Nat)(w:World):Ctr prog 54 [.p bm] w [] (λv cs=>∃bu bb,v= .tuple #[.p bu,.i 0]/\cs=[uS bb eB,IX bu bm bb]):=by
 refine Zfs func54 ntmps54 ?_;refine kM ?_;refine rh ?_;refine ZSn (λw hi=>JB w) ?_;rintro _ _ ⟨bb,rfl,rfl⟩;refine ZA ?_;refine ZO λb9=>?_
 refine Z_5 ?_;exact xH (cs':=[row _ _ _,row _ _ _]) (.inl rfl) Zu rfl rfl rfl pN
theorem uH(bu bm bb:Nat)(w:World)(h:(IX bu bm bb).ok w):Ctr prog 137 [.p bu] w [] (λv cs=>v= .p bm/\cs=[]):=by
 refine Zfs func137 ntmps137 ?_;refine tH ?_;exact mF
theorem NF(bu bb:Nat)(L:eA)(U:Mmu)(hT:U.t.length=16)(va:Nat)(hva:va<=4294967295)(w:World)(hi:Inv w (bD (uF bu bb L U)) (uF bu bb L U) w):Ctr prog 215 [.p bu,.w va] w (uF bu bb L U) (λv cs=>v= .tuple #[]/\cs=uF bu bb L ⟨U.m,wV U.t va⟩):=by
 refine Zfn func215 ntmps215 hi ?_;refine Z_6 ?_;refine ZcM ([uS bb U.t]) (λw hi hin=>NR bb U.t hT va hva w hin) ?_;refine Zn (bG (uF bu bb L ⟨U.m,wV U.t va⟩) Zj ?_);exact iY (cs':=uF _ _ _ _) (.inr rfl) Zu rfl fy
theorem Jn(bu bb:Nat)(L:eA)(U:Mmu)(hT:U.t.length=16)(w:World)(hi:Inv w (bD (uF bu bb L U)) (uF bu bb L U) w):Ctr prog 214 [.p bu] w (uF bu bb L U) (λv cs=>v= .tuple #[]/\cs=uF bu bb L ⟨U.m,eB⟩):=by
 refine Zfn func214 ntmps214 hi ?_;refine Z_5 ?_;refine ZcM ([uS bb U.t]) (λw hi hin=>JF bb U.t hT w hin) ?_;refine Zn (bG (uF bu bb L ⟨U.m,eB⟩) Zj ?_);exact iY (cs':=uF _ _ _ _) (.inr rfl) Zu rfl fy
abbrev trC(b:Nat)(t:Tr):bC:=row b t.cells 230
abbrev teC(b:Nat)(e:TE):bC:=row b e.cells 188
theorem Jr(bu bb:Nat)(L:eA)(U:Mmu)(hT:U.t.length=16)(s:Sp)(hr:s.root<=4294967295)(va:Nat)(hva:va<=4294967295)(kind:Int)(w:World)(hi:Inv w (bD (uF bu bb L U)) (uF bu bb L U) w):
  Ctr prog 152 [.p bu,s.v,.w va,.i kind] w (uF bu bb L U) (λv cs=>v= .tuple #[.w (cU L.n U s va kind).1.1,(cU L.n U s va kind).1.2.v]/\cs=uF bu bb L (cU L.n U s va kind).2):=by
 obtain⟨fd,hfd⟩:=Zgn (wU U.t va kind s.RM);obtain⟨wd,hwd⟩:=Zgn (gQ L.n U.m s.root va kind s.RM);have hwf:=Jh L.n U.m s.root va hva kind s.RM;have HFD:=NP bb U.t hT va hva kind s.RM;have HWD:=wdo_ok L U.m s.root va hr hva kind s.RM;unfold cU;rw[hfd]at HFD|-;rw[hwd]at HWD hwf|-;obtain⟨⟨te,tr⟩,M'⟩:=wd;simp only at HWD hwf|-;refine Zfn func152 ntmps152 hi ?_;refine Z_2 ?_;refine ZO λb5=>?_;refine ZA ?_;refine ZN λb9=>?_
 refine pV ?_ ?_<;>intro hc1
 .rw[hc1];simp only[ai];refine Z_5 ?_;refine iD ?_;exact Qo
 rw[hc1];refine iw ?_;refine Z_4 ?_;refine Dd ?_;refine ZFe 2 1 ?_;refine oO ?_;refine ZFe 6 1 ?_;refine ZG 7 ?_;refine cn 8 Zk (ZTn (λw hi=>HFD w (hi.get Zh)) ?_);rintro _ _ ⟨rfl,rfl⟩;refine sD ?_;refine ZE 12 ?_;refine ZE 13 ?_;refine eQ ?_;refine Zw6 ?_ ?_<;>intro hc4
 .rw[hc4];simp only[ai];refine Z_5 ?_;refine iD ?_;exact Qo
 rw[hc4];refine iw ?_;refine Z_2 ?_;refine cD (λq:Nat×Nat=>[(0,.p bu),(2,.w va),(9,.p b9),(12,.p q.1),(13,.p q.2)]) (λq=>[IX bu L.bm bb,eG L M',uS bb U.t,trC b9 Tr.none,teC q.1 te,trC q.2 tr]) (λ_=>True) ?_ ?_
 .refine bL ⟨λj=>List.elem j [10,16,17],[]⟩ Zk (lU ?_);refine ZFe 2 0 ?_;refine ZG 3 ?_;refine ZFe 4 2 ?_;refine ZG 5 ?_;refine ZE 6 ?_;refine ZE 7 ?_;refine ZFe 8 1 ?_;refine ZG 9 ?_;refine wa_3 10 14 15 Zk ?_ ?_ ?_
  .refine pL ([eG L U.m]) (λw hi hin=>HWD w hin) ?_;rintro _ _ ⟨rfl,rfl⟩;refine EE ?_;refine ke 14 15 Zk ?_ ?_
   .refine ZP λb12=>?_
    refine cn 15 Zk ?_;refine ZP λb13=>?_
    refine IS ?_;rintro _ _ ⟨rfl,rfl⟩;refine IQ ?_;rintro _ _ ⟨rfl,rfl⟩;refine eQ ?_;refine bJ ((b12,b13)) ?_ ?_ ?_
    .trivial
    .exact Zwk
    exact Zj
   refine ZP λb13=>?_
   refine cn 14 Zk ?_;refine ZP λb12=>?_
   refine IS ?_;rintro _ _ ⟨rfl,rfl⟩;refine IQ ?_;rintro _ _ ⟨rfl,rfl⟩;refine eQ ?_;refine bJ ((b12,b13)) ?_ ?_ ?_
   .trivial
   .exact Zwk
   exact Zj
  .refine ZP λb12=>?_
   refine ke 10 15 Zk ?_ ?_
   .refine pL ([eG L U.m]) (λw hi hin=>HWD w hin) ?_;rintro _ _ ⟨rfl,rfl⟩;refine EE ?_;refine cn 15 Zk ?_;refine ZP λb13=>?_
    refine IS ?_;rintro _ _ ⟨rfl,rfl⟩;refine IQ ?_;rintro _ _ ⟨rfl,rfl⟩;refine eQ ?_;refine bJ ((b12,b13)) ?_ ?_ ?_
    .trivial
    .exact Zwk
    exact Zj
   refine ZP λb13=>?_
   refine cn 10 Zk (pL ([eG L U.m]) (λw hi hin=>HWD w hin) ?_);rintro _ _ ⟨rfl,rfl⟩;refine EE ?_;refine IS ?_;rintro _ _ ⟨rfl,rfl⟩;refine IQ ?_;rintro _ _ ⟨rfl,rfl⟩;refine eQ ?_;refine bJ ((b12,b13)) ?_ ?_ ?_
   .trivial
   .exact Zwk
   exact Zj
  refine ZP λb13=>?_
  refine ke 10 14 Zk ?_ ?_
  .refine pL ([eG L U.m]) (λw hi hin=>HWD w hin) ?_;rintro _ _ ⟨rfl,rfl⟩;refine EE ?_;refine cn 14 Zk ?_;refine ZP λb12=>?_
   refine IS ?_;rintro _ _ ⟨rfl,rfl⟩;refine IQ ?_;rintro _ _ ⟨rfl,rfl⟩;refine eQ ?_;refine bJ ((b12,b13)) ?_ ?_ ?_
   .trivial
   .exact Zwk
   exact Zj
  refine ZP λb12=>?_
  refine cn 10 Zk (pL ([eG L U.m]) (λw hi hin=>HWD w hin) ?_);rintro _ _ ⟨rfl,rfl⟩;refine EE ?_;refine IS ?_;rintro _ _ ⟨rfl,rfl⟩;refine IQ ?_;rintro _ _ ⟨rfl,rfl⟩;refine eQ ?_;refine bJ ((b12,b13)) ?_ ?_ ?_
  .trivial
  .exact Zwk
  exact Zj
 rintro⟨b12,b13⟩ -;dsimp only;refine Zw8 ?_ ?_<;>intro hc7
 .rw[hc7];simp only[ai];refine Zs (bL ⟨λj=>List.elem j [2],[]⟩ Zk ?_);refine M1 ?_;refine Z_3 ?_;exact Qo
 rw[hc7];refine iw ?_;refine Z_3 ?_;refine bL ⟨λj=>List.elem j [5],[]⟩ Zk (lU ?_);refine ZFe 2 1 ?_;refine ZG 3 ?_;refine ZI 4 ?_;refine cn 5 Zk (pL ([uS bb U.t]) (λw hi hin=>NQ bb U.t hT te hwf w hin) ?_);rintro _ _ ⟨rfl,rfl⟩;refine lv ?_;refine bL ⟨λj=>List.elem j [8],[]⟩ Zk (ZFe 0 2 ?_);refine ZG 1 ?_;refine Zy4 2 rfl (jR Zv0 Zv0 rfl) ?_;refine ZE 3 ?_;refine Zy4 4 rfl (i4 (Zv rfl) (Zv rfl) Wq1 (show _=((va%64:Nat):Int)from by grind)) ?_;refine Zy4 5 rfl (ef Zv0 Zv0 rfl) ?_;refine ZI 6 ?_;refine ZE 7 ?_;refine cn 8 Zk (ZR ?_);refine lv ?_;exact bG [IX bu L.bm bb,eG L M',uS bb (JH U.t te),trC b9 tr] Zj Qo
theorem vj(pfn:Int)(va:Nat):u32 (sN pfn va)/\sN pfn va%64=((va%64:Nat):Int):=by
 unfold sN;rw[aC,aC];exact⟨⟨by omega,by omega⟩,by omega⟩
theorem yO(n:Nat)(U:Mmu)(s:Sp)(va:Nat)(hva:va<=4294967295)(kind:Int):u32 (cU n U s va kind).1.1/\((cU n U s va kind).1.2.RN=0->(cU n U s va kind).1.1%64=((va%64:Nat):Int)):=by
 unfold cU;cases(!s.RW)with
 |true=>exact⟨⟨by grind,by grind⟩,λ_=>by grind⟩
 |false=>
  refine iw ?_;cases hf:(wU U.t va kind s.RM).2 with
  |true=>
   grind [wU,po,EZ,asked,vj]
  |false=>
   refine iw ?_;cases hc:((gQ n U.m s.root va kind s.RM).1.2.RN !=0)with
   |true=>
    simp only[ai];refine⟨⟨by decide,by decide⟩,λh=>?_⟩
    grind
   |false=>
    grind [vj,gQ]
structure Nb(n:Nat)(va:Nat)(p:Int):Prop where
 u:u32 p
 m:p%64=((va%64:Nat):Int)
 r:p<((n*64:Nat):Int)\/tB p=true
theorem jt(n:Nat)(U:Mmu)(s:Sp)(va:Nat)(hva:va<=4294967295)(kind:Int):u32 (cG n U s va kind).1.1/\((cG n U s va kind).1.2.RN=0->Nb n va (cG n U s va kind).1.1):=by
 obtain⟨h1,h2⟩:=yO n U s va hva kind;have u0:u32 0:=⟨by decide,by decide⟩;unfold cG;cases hf:(fault kind==0)with
 |true=>grind
 |false=>
  refine iw ?_;cases hc:((cU n U s va kind).1.2.RN !=0)with
  |true=>
   grind
  |false=>
   refine iw ?_;cases hr:(decide ((cU n U s va kind).1.1<((n*64:Nat):Int))||((kind !=1)&&tB (cU n U s va kind).1.1))with
   |false=>grind
   |true=>
    simp only[ai];refine⟨h1,λh=>⟨h1,h2 h,?_⟩⟩
    grind
def ee(va:Nat):Nat:=(va - va%64+64)%4294967296
theorem mh(va:Nat):ee va<=4294967295:=by unfold ee;omega
theorem BS(va:Nat):ee va%64=0:=by unfold ee;omega
def mG(a b:Int)(va j:Nat):Int:=bif decide (j<64 - va%64)then IntKind.u32.wrap (a+(j:Int))else IntKind.u32.wrap (b+((j - (64 - va%64):Nat):Int))
def pd(a b:Int)(va k:Nat):List Int:=(List.range k).map (mG a b va)
theorem xz(a b:Int)(va k:Nat):pd a b va (k+1)=pd a b va k++[mG a b va k]:=by simp[pd,List.range_succ]
theorem By(a b:Int)(va k:Nat):(pd a b va k).length=k:=by simp[pd]
def fK(a b:Int)(va k:Nat)(t:Tr)(U:Mmu):(List Int×Tr)×Mmu:=
 bif tB a then(([],⟨10,va⟩),U)else bif(decide (((64 - va%64:Nat):Int)<(k:Int))&&tB b)then(([],⟨10,ee va⟩),U)else((pd a b va k,t),U)
def GZ(n:Nat)(s:Sp)(va k:Nat)(kind:Int)(p1:(Int×Tr)×Mmu):(List Int×Tr)×Mmu:=
 bif(cG n p1.2 s (ee va) kind).1.2.RN !=0 then(([],(cG n p1.2 s (ee va) kind).1.2),(cG n p1.2 s (ee va) kind).2)
 else fK p1.1.1 (cG n p1.2 s (ee va) kind).1.1 va k (cG n p1.2 s (ee va) kind).1.2 (cG n p1.2 s (ee va) kind).2
def G1(n:Nat)(s:Sp)(va k:Nat)(kind:Int)(p1:(Int×Tr)×Mmu):(List Int×Tr)×Mmu:=
 bif p1.1.2.RN !=0 then(([],p1.1.2),p1.2)else
 bif decide (((64 - va%64:Nat):Int)<(k:Int))then GZ n s va k kind p1 else fK p1.1.1 0 va k p1.1.2 p1.2
def eU(n:Nat)(U:Mmu)(s:Sp)(va k:Nat)(kind:Int):(List Int×Tr)×Mmu:=G1 n s va k kind (cG n U s va kind)
theorem E8{n:Nat}{a b:Int}{va k:Nat}(hn:n<=64)(ha:0<=a)(ha1:a<((n*64:Nat):Int))(hm:a%64=((va%64:Nat):Int))(hb:((64 - va%64:Nat):Int)<(k:Int)->0<=b/\b<((n*64:Nat):Int)/\b%64=0)(hk:k<=4):∀x,x∈pd a b va k->0<=x/\x<((n*64:Nat):Int):=by
 intro x hx;unfold pd at hx;obtain⟨j,hj,rfl⟩:=bn.1 hx;rw[List.mem_range]at hj;unfold mG;cases hc:decide (j<64 - va%64)with
 |true=>
  grind [IntKind.wrap_u32]
 |false=>
  refine iw ?_;have h1:=of_decide_eq_false hc;obtain⟨b0,b1,b2⟩:=hb Wq1;rw[aC];omega
theorem Es{a:Int}(h:tB a=false){n:Nat}{va:Nat}(hp:Nb n va a):a<((n*64:Nat):Int):=by
 grind [hp.r]
theorem Bx{n:Nat}{U:Mmu}{s:Sp}{va k:Nat}(hn:n<=64)(hva:va<=4294967295){kind:Int}(hk:k<=4):∀x,x∈(eU n U s va k kind).1.1->0<=x/\x<((n*64:Nat):Int):=by
 obtain⟨_,h1⟩:=jt n U s va hva kind;unfold eU G1;cases hc:((cG n U s va kind).1.2.RN !=0)with
 |true=>grind
 |false=>
  refine iw ?_;have p1:=h1 bR;cases hl:decide (((64 - va%64:Nat):Int)<(k:Int))with
  |true=>
   simp only[ai];unfold GZ;obtain⟨_,h2⟩:=jt n (cG n U s va kind).2 s (ee va) (mh va) kind;cases hc2:((cG n (cG n U s va kind).2 s (ee va) kind).1.2.RN !=0)with
   |true=>grind
   |false=>
    refine iw ?_;have p2:=h2 bR;unfold fK;cases d1:tB (cG n U s va kind).1.1 with
    |true=>grind
    |false=>
     refine iw ?_;rw[hl];simp only[Bool.true_and];cases d2:tB (cG n (cG n U s va kind).2 s (ee va) kind).1.1 with
     |true=>grind
     |false=>
      refine iw ?_;exact E8 hn p1.u.1 (Es d1 p1) p1.m (λ_=>⟨p2.u.1,Es d2 p2,by simp[p2.m,BS]⟩) hk
  |false=>
   refine iw ?_;unfold fK;cases d1:tB (cG n U s va kind).1.1 with
   |true=>grind
   |false=>
    refine iw ?_;rw[hl];simp only[Bool.false_and,ah];exact E8 hn p1.u.1 (Es d1 p1) p1.m (λh=>absurd h (of_decide_eq_false hl)) hk
theorem rB{n:Nat}{U:Mmu}{s:Sp}{va k:Nat}{kind:Int}:(eU n U s va k kind).1.1.length<=k:=by
 grind [eU,G1,GZ,fK,By]
def gi(d:List Int):List Int->Int
 |[]=>0
 |a::l=>gB d a.toNat+256*gi d l
theorem nh{d:List Int}(h:u8s d):∀l:List Int,0<=gi d l/\gi d l<256^l.length
 |[]=>by simp[gi]
 |a::l=>by
  have h1:=kE h a.toNat;have h2:=nh h l
  grind [gi]
theorem zD{d:List Int}(h:u8s d){l:List Int}(hl:l.length<=4){j:Nat}(hj:j<l.length):bits .or .u32 (IntKind.u32.wrap (gi d (l.drop (j+1))*2^(min (8:Int).toNat IntKind.u32.bits))) (gB d (l[j]'hj).toNat)=gi d (l.drop j):=by
 have h1:=nh h (l.drop (j+1));have h2:=kE h (l[j]'hj).toNat;have h3:(l.drop (j+1)).length<=3:=by rw[List.length_drop];omega
 rw[show l.drop j=l[j]'hj::l.drop (j+1)from List.drop_eq_getElem_cons hj];simp only[gi];generalize gi d (l.drop (j+1))=v at h1;generalize (l.drop (j+1)).length=m at h1 h3;have hv:0<=v/\v<16777216:=by
  obtain rfl|rfl|rfl|rfl:m=0\/m=1\/m=2\/m=3:=by omega
  all_goals (simp at h1;omega)
 have e1:(2:Int)^(min (8:Int).toNat IntKind.u32.bits)=256:=rfl;rw[e1,u32_wrap_id _ Wq1 Wq1,bits_join .u32 32 Wq7 wraps_u32 8 (v*256) _ Wq1 Wq1 Wq1 Wq1 Wq1 Wq1];omega
def Ss(M:Mem)(l:List Int)(v:Int):Nat->Mem
 |0=>M
 |k+1=>(Ss M l v k).put ((l.getD k 0).toNat) (uE v k)
def qJ(n:Nat)(U:Mmu)(s:Sp)(va k:Nat):(Int×Tr)×Mmu:=
 ((gi (eU n U s va k 2).2.m.data (eU n U s va k 2).1.1,(eU n U s va k 2).1.2),(eU n U s va k 2).2)
def o6(n:Nat)(U:Mmu)(s:Sp)(va k:Nat)(v:Int):Tr×Mmu:=
 ((eU n U s va k 3).1.2,⟨Ss (eU n U s va k 3).2.m (eU n U s va k 3).1.1 v (eU n U s va k 3).1.1.length,(eU n U s va k 3).2.t⟩)
theorem Dk(v:Int){k:Nat}(hk:k<4):IntKind.u8.wrap (v.fdiv (2^(min (IntKind.i64.wrap (8*(k:Int))).toNat IntKind.u32.bits)))=uE v k:=by
 rw[<-Bb v hk];obtain rfl|rfl|rfl|rfl:k=0\/k=1\/k=2\/k=3:=by omega
 all_goals rfl
theorem qc(bu bb:Nat)(L:eA)(U:Mmu)(hT:U.t.length=16)(s:Sp)(hr:s.root<=4294967295)(va:Nat)(hva:va<=4294967295)(kind:Int)(w:World)(hi:Inv w (bD (uF bu bb L U)) (uF bu bb L U) w):
  Ctr prog 136 [.p bu,s.v,.w va,.i kind] w (uF bu bb L U) (λv cs=>v= .tuple #[.w (cG L.n U s va kind).1.1,(cG L.n U s va kind).1.2.v]/\cs=uF bu bb L (cG L.n U s va kind).2):=by
 obtain⟨fk,hfk⟩:=Zgn (fault kind);obtain⟨td,htd⟩:=Zgn (cU L.n U s va kind);have HF:=F7 kind;have HT:=Jr bu bb L U hT s hr va hva kind;unfold cG;rw[hfk]at HF|-;rw[htd]at HT|-;obtain⟨⟨p,tr⟩,U'⟩:=td;simp only at HT|-;refine Zfn func136 ntmps136 hi ?_;refine Z_2 ?_;refine ZO λb5=>?_;refine ZA ?_;refine ZN λb9=>?_
 refine Z_6 ?_;refine ZN λb10=>?_
 refine jh ?_;refine ZSe (λw hi=>HF w) ?_;refine Zw3 ?_ ?_<;>intro hc2
 .rw[hc2];simp only[ai];refine Zs (bL ⟨λj=>List.elem j [2],[]⟩ Zk ?_);refine M1 ?_;refine Z_3 ?_;exact Qo
 rw[hc2];refine iw ?_;refine Z_8 ?_;refine ZcM (uF bu bb L U) (λw hi hin=>HT w hin) ?_;refine Z_3 ?_;refine ZN λb12=>?_
 refine ZA ?_;refine eE (cS (vs:=tr.cells) Zrf rfl rfl (mO rfl) Za oV) ?_;rintro _ _ ⟨rfl,rfl⟩;refine pV ?_ ?_<;>intro hc5
 .rw[hc5];simp only[ai];refine Zs (bL ⟨λj=>List.elem j [2],[]⟩ Zk ?_);refine M1 ?_;refine Z_3 ?_;exact Qo
 rw[hc5];refine iw ?_;refine fB ?_;refine ZSe (λw hi=>oa L U'.m w (hi.get Zh)) ?_;refine Z_6 ?_;refine dU (cu rfl rfl) (.cons (bU rfl) .nil) (λ_ _=>rfl) (λhg w hi=>wk p w) rfl (Z_4 ?_);refine ZW ?_ ?_<;>intro hc7
 .rw[hc7];simp only[ai];refine Zs (bL ⟨λj=>List.elem j [3],[]⟩ Zk ?_);refine ZE 0 ?_;refine ZI 1 ?_;refine ZE 2 ?_;refine cn 3 Zk (ZR ?_);refine eQ ?_;refine Z_3 ?_;exact Qo
 rw[hc7];refine iw ?_;refine Z_3 ?_;refine bL ⟨λj=>List.elem j [2],[]⟩ Zk (ZI 0 ?_);refine ZE 1 ?_;refine cn 2 Zk (ZR ?_);refine lv ?_;exact Qo
theorem JR(bu bb:Nat)(L:eA)(U:Mmu)(hT:U.t.length=16)(s:Sp)(hr:s.root<=4294967295)(va k:Nat)(hva:va<=4294967295)(hk1:1<=k)(hk4:k<=4)(kind:Int)(w:World)(hi:Inv w (bD (uF bu bb L U)) (uF bu bb L U) w):
  Ctr prog 283 [.p bu,s.v,.w va,.i k,.i kind] w (uF bu bb L U) (λv cs=>∃A c,v= .tuple #[.slice A (eU L.n U s va k kind).1.1.length c,(eU L.n U s va k kind).1.2.v]/\cs=uF bu bb L (eU L.n U s va k kind).2++[sl .u32 39 A (eU L.n U s va k kind).1.1.length c (eU L.n U s va k kind).1.1]):=by
 have HP1:=qc bu bb L U hT s hr va hva kind;have hl1:=vi L.n U s va kind;obtain⟨p1,hp1⟩:=Zgn (cG L.n U s va kind);unfold eU;rw[hp1]at HP1 hl1|-;rw[hT]at hl1;have HP2:=qc bu bb L p1.2 hl1 s hr (ee va) (mh va) kind;obtain⟨p2,hp2⟩:=Zgn (cG L.n p1.2 s (ee va) kind);unfold G1 GZ;rw[hp2]at HP2|-;obtain⟨⟨a1,tr1⟩,U1⟩:=p1;obtain⟨⟨a2,tr2⟩,U2⟩:=p2;simp only at HP1 HP2|-;refine Zfn func283 ntmps283 hi ?_;refine Z_2 ?_;refine ZO λb6=>?_;refine ZA ?_;refine ZN λb11=>?_
 refine kM ?_;refine cJ rfl (bR) (Z_8 ?_);refine ZcM (uF bu bb L U) (λw hi hin=>HP1 w hin) ?_;refine Z_3 ?_;refine ZN λb13=>?_
 refine ZA ?_;refine eE (cS (vs:=tr1.cells) Zrf rfl rfl (mO rfl) Za oV) ?_;rintro _ _ ⟨rfl,rfl⟩;refine pV ?_ ?_<;>intro hc4
 .rw[hc4];simp only[ai];refine Zs (bL ⟨λj=>List.elem j [2],[]⟩ Zk ?_);refine Jj 39 1 (M1 ?_);refine Z_3 ?_;exact Wq94
 rw[hc4];refine iw ?_;refine Z_5 ?_;refine Zy (i4 (Zv rfl) (Zv rfl) Wq1 (show _=((va%64:Nat):Int)from by grind)) ?_;refine wO ?_;refine Zy (gr (Zv rfl) (Zv rfl) (show IntKind.i64.wrap _=((64 - va%64:Nat):Int) by rw[IntWalk.i64_in _ ⟨by omega,by omega⟩];omega)) ?_;refine Z_7 ?_;refine Zy (i4 (Zv rfl) (Zv rfl) Wq1 (show _=((va%64:Nat):Int)from by grind)) ?_;refine Zy (gr Zv0 Zv0 rfl) ?_;refine Zy (ef (Zv rfl) (Zv rfl) (show IntKind.u32.wrap (IntKind.u32.wrap _+64)=((ee va:Nat):Int) by rw[aC,aC];unfold ee;omega)) ?_;refine Z_4 ?_;refine cD (λq:Int×Mmu×Tr=>[(2,.w va),(3,.i k),(11,.p b11),(12,.w a1),(13,.p b13),(14,.i ((64 - va%64:Nat):Int)),(15,.w (ee va:Nat)),(16,.w q.1)]) (λq=>uF bu bb L q.2.1++[trC b11 Tr.none,trC b13 q.2.2]) (λq=>(bif decide (((64 - va%64:Nat):Int)<(k:Int))then bif tr2.RN !=0 then((([]:List Int),tr2),U2)else fK a1 a2 va k tr2 U2 else fK a1 0 va k tr1 U1)=fK a1 q.1 va k q.2.2 q.2.1) ?_ ?_
 .refine Zw7 ?_ ?_<;>intro hc8
  .have hsm:(bif decide (((64 - va%64:Nat):Int)<(k:Int))then bif tr2.RN !=0 then((([]:List Int),tr2),U2)else fK a1 a2 va k tr2 U2 else fK a1 0 va k tr1 U1)=bif tr2.RN !=0 then((([]:List Int),tr2),U2)else fK a1 a2 va k tr2 U2:=by rw[hc8];rfl
   refine Z_6 ?_;refine ZcM (uF bu bb L U1) (λw hi hin=>HP2 w hin) ?_;refine Z_4 ?_;refine eE (cS (vs:=tr2.cells) Zrf rfl rfl (mO rfl) Za oV) ?_;rintro _ _ ⟨rfl,rfl⟩;refine Zw9 ?_ ?_<;>intro hc10
   .rw[hsm,hc10];simp only[ai];refine Zs (bL ⟨λj=>List.elem j [2],[]⟩ Zk ?_);refine Jj 39 1 (M1 ?_);refine Z_3 ?_;exact Wq94
   refine Zc (bJ ((a2,U2,tr2)) ?_ ?_ ?_)
   .grind
   .exact Zwk
   exact Zj
  have hsm:(bif decide (((64 - va%64:Nat):Int)<(k:Int))then bif tr2.RN !=0 then((([]:List Int),tr2),U2)else fK a1 a2 va k tr2 U2 else fK a1 0 va k tr1 U1)=fK a1 0 va k tr1 U1:=by rw[hc8];rfl
  refine Zc (bJ ((0,U1,tr1)) ?_ ?_ ?_)
  .exact hsm
  .exact Zwk
  exact Zj
 rintro⟨a2',U',tr'⟩ hq;dsimp only at hq;rw[hq];dsimp only;unfold fK;refine Z_5 ?_;refine ZSe (λw hi=>wk a1 w) ?_;refine Zw3 ?_ ?_<;>intro hc12
 .rw[hc12];simp only[ai];refine Z_2 ?_;refine cT 39 1 (Z_3 ?_);refine mC ?_;exact Wq94
 rw[hc12];refine iw ?_;refine Z_7 ?_;refine dU (bM rfl rfl) (.cons (bU rfl) .nil) (λ_ _=>rfl) (λhg w hi=>wk a2' w) rfl (Z_4 ?_);refine ZW ?_ ?_<;>intro hc14
 .rw[hc14];simp only[ai];refine Z_2 ?_;refine cT 39 1 (Z_3 ?_);refine mC ?_;exact Wq94
 rw[hc14];refine iw ?_;refine Z_5 ?_;refine cT 39 1 (gK ?_);refine bN (λq:Nat×Option Addr×Nat=>[(11,.p b11),(12,.w a1),(13,.p b13),(14,.i ((64 - va%64:Nat):Int)),(16,.w a2'),(17,.slice q.2.1 (pd a1 a2' va q.1).length q.2.2),(78,.i k),(79,.i (q.1:Int))]) (λq=>uF bu bb L U'++[trC b11 Tr.none,trC b13 tr',sl .u32 39 q.2.1 (pd a1 a2' va q.1).length q.2.2 (pd a1 a2' va q.1)]) (λq=>q.1<=k) (λq=>k - q.1) ((0,none,0)) ?_ ?_ ?_ ?_
 .omega
 .exact Zwk
 .exact Zu
 rintro⟨j,A1,c1⟩ hj;simp only at hj;dsimp only;refine Zw6 ?_ ?_<;>intro hc18
 .simp only[ae]at hc18;have hle:=By a1 a2' va j;refine AG ?_;refine ZW ?_ ?_<;>intro hc20
  .simp only[ae]at hc20;have he:mG a1 a2' va j=IntKind.u32.wrap (a1+(j:Int)):=by(unfold mG;grind)
   refine Z_4 ?_;refine nP ?_;refine Zy (ef (Zv rfl) (Zv rfl) (show IntKind.u32.wrap (a1+IntKind.u32.wrap (j:Int))=mG a1 a2' va j by rw[he,u32_wrap_id (j:Int) Wq1 Wq1])) ?_;refine kY ?_;rintro _ _ ⟨b90,rfl,rfl⟩;refine fW (cj (e:=39) (sz:=1) (bytes:=4) rfl rfl Za rfl rfl (λw hi=>hi.rd (show Has _ (slv 39 1 (sA b90) 1 1 [.w (mG a1 a2' va j)])from Zh)) (mO rfl) gq Wq1) rfl ?_;rintro _ _ ⟨A2,c2,rfl,rfl⟩;refine Wq262 ?_;refine dM ((j+1,A2,c2)) ?_ ?_ ?_
   .exact⟨by show j+1<=k;omega,by show k - (j+1)<k - j;omega⟩
   .exact Zwk
   exact Zu
  simp only[ac]at hc20;have he:mG a1 a2' va j=IntKind.u32.wrap (a2'+((j - (64 - va%64):Nat):Int)):=by(unfold mG;grind)
  refine Z_5 ?_;refine Zy (gr (Zv rfl) (Zv rfl) (show IntKind.i64.wrap ((j:Int) - ((64 - va%64:Nat):Int))=((j - (64 - va%64):Nat):Int) by rw[IntWalk.i64_in _ ⟨by omega,by omega⟩];omega)) ?_;refine nP ?_;refine Zy (ef (Zv rfl) (Zv rfl) (show IntKind.u32.wrap (a2'+IntKind.u32.wrap ((j - (64 - va%64):Nat):Int))=mG a1 a2' va j by rw[he,u32_wrap_id (((j - (64 - va%64):Nat):Int)) Wq1 Wq1])) ?_;refine kY ?_;rintro _ _ ⟨b99,rfl,rfl⟩;refine fW (cj (e:=39) (sz:=1) (bytes:=4) rfl rfl Za rfl rfl (λw hi=>hi.rd (show Has _ (slv 39 1 (sA b99) 1 1 [.w (mG a1 a2' va j)])from Zh)) (mO rfl) gq Wq1) rfl ?_;rintro _ _ ⟨A2,c2,rfl,rfl⟩;refine Wq262 ?_;refine dM ((j+1,A2,c2)) ?_ ?_ ?_
  .exact⟨by show j+1<=k;omega,by show k - (j+1)<k - j;omega⟩
  .exact Zwk
  exact Zu
 simp only[ac]at hc18;obtain rfl:j=k:=by omega
 refine Z_6 ?_;refine Wq309 ?_;refine ZR ?_;refine lv ?_;exact Wq94
theorem NE(bu bb:Nat)(L:eA)(U:Mmu)(hT:U.t.length=16)(s:Sp)(hr:s.root<=4294967295)(va k:Nat)(hva:va<=4294967295)(hk1:1<=k)(hk4:k<=4)(w:World)(hi:Inv w (bD (uF bu bb L U)) (uF bu bb L U) w):
  Ctr prog 259 [.p bu,s.v,.w va,.i k] w (uF bu bb L U) (λv cs=>v= .tuple #[.w (qJ L.n U s va k).1.1,(qJ L.n U s va k).1.2.v]/\cs=uF bu bb L (qJ L.n U s va k).2):=by
 obtain⟨n1,n64,_⟩:=mM (hi.ok (eG L U.m) cH);have HS:=JR bu bb L U hT s hr va k hva hk1 hk4 2;have hin0:=Bx (n:=L.n) (U:=U) (s:=s) (va:=va) (k:=k) n64 hva (kind:=2) hk4;have hlen0:=rB (n:=L.n) (U:=U) (s:=s) (va:=va) (k:=k) (kind:=2);unfold qJ;obtain⟨sp,hsp⟩:=Zgn (eU L.n U s va k 2);rw[hsp]at HS hin0 hlen0|-;obtain⟨⟨l,tr⟩,U'⟩:=sp;simp only at HS hin0 hlen0|-;refine Zfn func259 ntmps259 hi ?_;refine Z_2 ?_;refine ZO λb5=>?_;refine ZA ?_;refine ZN λb9=>?_
 refine Z_8 ?_;refine dz (uF bu bb L U) (λw hi hin=>HS w hin) ?_;rintro _ _ ⟨A1,c1,rfl,rfl⟩;refine Z_3 ?_;refine ZN λb11=>?_
 refine ZA ?_;refine eE (cS (vs:=tr.cells) Zrf rfl rfl (mO rfl) Za oV) ?_;rintro _ _ ⟨rfl,rfl⟩;refine Z_4 ?_;refine dZ (λw hi=>mM (hi.get (show Has _ (eG L U'.m)from Zh))) (λhmm=>?_);obtain⟨_,_,hdl,hdb,_⟩:=hmm;refine Z_6 ?_;have e0:gi U'.m.data (l.drop l.length)=0:=by(rw[List.drop_length];rfl)
 refine Z_2 ?_;refine oN ?_;refine Z_4 ?_;refine bN (λj:Nat=>[(0,.p bu),(9,.p b9),(10,.slice A1 l.length c1),(11,.p b11),(12,.w (gi U'.m.data (l.drop j))),(13,.i ((j:Int) - 1))]) (λ_=>uF bu bb L U'++[sl .u32 39 A1 l.length c1 l,trC b9 Tr.none,trC b11 tr]) (λj=>j<=l.length) (λj=>j) (l.length) ?_ ?_ ?_ ?_
 .omega
 .exact Zwk
 .exact Zu
 rintro j hj;refine Zw7 ?_ ?_<;>intro hc4
 .simp only[ae]at hc4;obtain⟨i,rfl⟩:∃i,j=i+1:=⟨j - 1,by omega⟩;have hil:i<l.length:=by omega
  have hrange:=hin0 _ (List.getElem_mem hil);refine mU (λw hi=>dV (hi.get (show Has _ (sl .u32 39 A1 l.length c1 l)from Zh)) Wq1) ?_;rintro⟨ba,rfl⟩;obtain⟨an,han⟩:=ap hrange.1;refine Z_5 ?_;refine Dd ?_;refine ZFe 2 0 ?_;refine oO ?_;refine Zy4 6 rfl (bV (j:=i) (sz:=1) (r:=i) rfl Zrf (Zv rfl) (Zv rfl) Wq2 Wq2 Wq1) ?_;refine Zy5 7 rfl (bF Zrf (Zv rfl)) (cM Zh (show(ints .u32 l)[i]? =some (.w (an:Int))from by rw[<-han];exact mm hil)) ?_;refine cn 8 Zk (ZTn (λw hi=>Oi L U'.m an Wq1 w (hi.get Zh)) ?_);rintro _ _ ⟨rfl,rfl⟩;refine sD ?_;refine ZE 12 ?_;refine ZE 13 ?_;refine lv ?_;have hg:=kE hdb an;have hst:=zD hdb (show l.length<=4 by omega) hil;rw[han]at hst;refine ZA ?_;refine Zy (yI (Zv rfl) (Zv rfl) Wq1 rfl) ?_;refine ZA ?_;refine Zy (cQ rfl rfl (Zv rfl) Nl) ?_;refine Zy (Gv Zv0 Zv0 hst) ?_;refine Z_6 ?_;refine oN ?_;refine Z_2 ?_;refine bJ (i) ?_ ?_ ?_
  .omega
  .exact Zwk
  exact Zj
 simp only[ac]at hc4;obtain rfl:j=0:=by omega
 rw[List.drop_zero];refine Z_6 ?_;refine Wq309 ?_;refine ZR ?_;refine lv ?_;exact bG (uF bu bb L U'++[trC b9 tr]) Zj Qo
theorem Jl(bu bb:Nat)(L:eA)(U:Mmu)(hT:U.t.length=16)(s:Sp)(hr:s.root<=4294967295)(va k:Nat)(v:Int)(hva:va<=4294967295)(hk1:1<=k)(hk4:k<=4)(w:World)(hi:Inv w (bD (uF bu bb L U)) (uF bu bb L U) w):
  Ctr prog 257 [.p bu,s.v,.w va,.w v,.i k] w (uF bu bb L U) (λx cs=>x=(o6 L.n U s va k v).1.v/\cs=uF bu bb L (o6 L.n U s va k v).2):=by
 obtain⟨n1,n64,_⟩:=mM (hi.ok (eG L U.m) cH);have HS:=JR bu bb L U hT s hr va k hva hk1 hk4 3;have hin0:=Bx (n:=L.n) (U:=U) (s:=s) (va:=va) (k:=k) n64 hva (kind:=3) hk4;have hlen0:=rB (n:=L.n) (U:=U) (s:=s) (va:=va) (k:=k) (kind:=3);unfold o6;obtain⟨sp,hsp⟩:=Zgn (eU L.n U s va k 3);rw[hsp]at HS hin0 hlen0|-;obtain⟨⟨l,tr⟩,U'⟩:=sp;simp only at HS hin0 hlen0|-;refine Zfn func257 ntmps257 hi ?_;refine Z_2 ?_;refine ZO λb6=>?_;refine ZN λb10=>?_
 refine Z_8 ?_;refine dz (uF bu bb L U) (λw hi hin=>HS w hin) ?_;rintro _ _ ⟨A1,c1,rfl,rfl⟩;refine Z_3 ?_;refine ZN λb12=>?_
 refine ZA ?_;refine eE (cS (vs:=tr.cells) Zrf rfl rfl (mO rfl) Za oV) ?_;rintro _ _ ⟨rfl,rfl⟩;refine gK ?_;refine bN (λj:Nat=>[(0,.p bu),(3,.w v),(10,.p b10),(12,.p b12),(23,.slice A1 l.length c1),(24,.i l.length),(25,.i (j:Int))]) (λj=>uF bu bb L ⟨Ss U'.m l v j,U'.t⟩++[sl .u32 39 A1 l.length c1 l,trC b10 Tr.none,trC b12 tr]) (λj=>j<=l.length) (λj=>l.length - j) (0) ?_ ?_ ?_ ?_
 .omega
 .exact Zwk
 .exact Zu
 rintro j hj;refine Zw6 ?_ ?_<;>intro hc3
 .simp only[ae]at hc3;have hil:j<l.length:=by omega
  have hrange:=hin0 _ (List.getElem_mem hil);refine mU (λw hi=>dV (hi.get (show Has _ (sl .u32 39 A1 l.length c1 l)from Zh)) Wq1) ?_;rintro⟨ba,rfl⟩;obtain⟨an,han⟩:=ap hrange.1;have hgd:(l.getD j 0).toNat=an:=by(grind)
  refine Z_7 ?_;refine Zy (bV (j:=j) (sz:=1) (r:=j) rfl Zrf (Zv rfl) (Zv rfl) Wq2 Wq2 Wq1) ?_;refine dK (bF Zrf (Zv rfl)) (cM Zh (show(ints .u32 l)[j]? =some (.w (an:Int))from by rw[<-han];exact mm hil)) rfl (Z_4 ?_);refine bL ⟨λj=>List.elem j [10],[]⟩ Zk (lU ?_);refine ZFe 2 0 ?_;refine oO ?_;refine ZE 6 ?_;refine Zy4 7 rfl (jR Zv0 Zv0 rfl) ?_;refine Zy4 8 rfl (lW (Zv rfl) (Zv rfl) (by rw[IntWalk.i64_in _ ⟨by omega,by omega⟩];omega) rfl) ?_;refine Zy4 9 rfl (cQ rfl rfl (Zv rfl) (Dk v (show j<4 by omega))) ?_;refine cn 10 Zk (pL ([eG L (Ss U'.m l v j)]) (λw hi hin=>zl L (Ss U'.m l v j) an Wq1 (uE v j) (p7 v j) w hin) ?_);rintro _ _ ⟨rfl,rfl⟩;refine eQ ?_;refine Z_3 ?_;refine Wq6 ?_;refine bJ (j+1) ?_ ?_ ?_
  .omega
  .exact Zwk
  exact(show AT _ _ from by rw[show Ss U'.m l v (j+1)=(Ss U'.m l v j).put an (uE v j) by rw[Ss,hgd]];exact Zj)
 simp only[ac]at hc3;obtain rfl:j=l.length:=by omega
 refine Z_8 ?_;refine mD ?_;exact bG (uF bu bb L ⟨Ss U'.m l v l.length,U'.t⟩++[trC b10 tr]) Zj (pR (cs':=[row _ _ _,exC _ _ _ _,row _ _ _]) (.inl rfl) Zu rfl rfl Zh Zrf Zrf fy)
end
end Go.Ink
