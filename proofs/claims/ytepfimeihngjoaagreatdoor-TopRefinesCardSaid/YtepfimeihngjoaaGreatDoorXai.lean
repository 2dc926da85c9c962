/- Lemmas. -/
import Derived.Test.YtepfimeihngjoaaGreatDoorXae
import Derived.Test.YtepfimeihngjoaaGreatDoorXaf
set_option linter.all false
set_option maxRecDepth 100000
set_option maxHeartbeats 4000000
namespace Go.Ink
open List renaming length→J
open IntKind renaming wrap→V9
open Go.RowKit Go.Proofs.Tryz
variable{w:World}{n:Nat}{xs:List Value}
variable{i:Nat}{l:List Nat}
variable{ops:Array Oper}
section
section
variable{C:Cx}{Q:lK}{fr:Fr}{cs cs':List bJ}{ops:Array Oper}{K:Value->List bJ->Prop}{v:Value}{d:Nat}{f:FuncId}{ty:TypeId}{pos:String}{af:Array Edge}{i:Nat}{St:Dr}{s:List (Nat×Nat)}{l:List Operand}{vs:List Value}{ats:Array TypeId}
theorem ZcS(cin:List bJ){rs:List bJ}(hc:∀w,Inv C.w0 C.S cs w->Inv w (bM cin) cin w->UW C.P f vs w cin K)(h:∀v cs',(∃cout,K v cout/\cs'=cout++rs)->WS C St ops Q s ((d,v)::fr) cs')(hi:ops[i]? =some ⟨some d,.call {callee:= .value (.func f),args:=l.toArray,argTypes:=ats},ty,pos,af,none⟩:=by exact I)(hst:St.st i=true:=by exact I)(hl0:St.l0=[]:=by exact I)(hl:evs fr l=some vs:=by exact I)(hf:∀args w,(callFunc f args).run C.P w= .ok (.enter f args) w:=by exact λ_ _=>I)(hp:ik cin cs rs:=by exact Zi)(hd:Nat.blt d C.N=true:=by exact I):
  WSI C St ops Q i s fr cs:=mX hi hst (dh cin hl hf hp hc) (ZJ hl0) hd h
end
end
section
variable{C:Cx}{Q:lK}{fr:Fr}{cs:List bJ}{ops:Array Oper}{K:Value->List bJ->Prop}{v:Value}{d:Nat}{f:FuncId}{ty:TypeId}{pos:String}{af:Array Edge}{i:Nat}{St:Dr}{s:List (Nat×Nat)}{l:List Operand}{vs:List Value}{ats:Array TypeId}
variable{args:List Value}
theorem ZcSn(cin:List bJ){rs:List bJ}(hc:∀w,Inv C.w0 C.S cs w->Inv w (bM cin) cin w->UW C.P f vs w cin K)(h:∀v n,K v n->WS C St ops Q s ((d,v)::fr) (n++rs))(hi:ops[i]? =some ⟨some d,.call {callee:=.value (.func f),args:=l.toArray,argTypes:=ats},ty,pos,af,none⟩:=by exact I)(hst:St.st i=true:=by exact I)(hl0:St.l0=[]:=by exact I)(hl:evs fr l=some vs:=by exact I)(hf:∀args w,(callFunc f args).run C.P w=.ok (.enter f args) w:=by exact λ_ _=>I)(hp:ik cin cs rs:=by exact Zi)(hd:Nat.blt d C.N=true:=by exact I):WSI C St ops Q i s fr cs:=ZcS cin hc (λv _ ⟨n,k,e⟩=>e▸h v n k) hi hst hl0 hl hf hp hd
end
section
attribute [local irreducible] Ve bN
theorem fy(n lo hi:Int)(w:World)(h0:0<=lo)(h1:lo<=hi)(h2:hi<=1000000000000):CW prog 12 [.i n,.i lo,.i hi] w (.i (eN n lo hi)):=by
 obtain⟨m,hm⟩:∃m,m=hi - lo+1:=⟨_,I⟩;obtain⟨t,ht⟩:∃t,t=n.tmod m:=⟨_,I⟩;have e1:t<m:=by rw[ht];exact Int.tmod_lt_of_pos _ O
 have e2: - m<t:=by
  have:=Int.tmod_lt_of_pos (-n) (b:=m) O;rw[Int.neg_tmod]at this;omega
 have e3:t%m=n%m:=by
  rw[ht,Int.tmod_eq_emod];split
  .simp
  rw[Int.natAbs_of_nonneg O];simp
 rw[hm]at ht e1 e2;refine Wq447 ?_;refine oU ?_ ?_<;>intro hc2
 .refine UN ?_;refine mT ?_;refine ZA ?_;refine sb ?_;refine mT ?_;refine US ?_;refine mT ?_;refine UK ?_;refine Wl ?_;simp only[ai]at hc2;refine⟨congrArg _ ?_,I⟩;unfold eN;rw[<-hm,<-e3];have e4:(t+m)%m=t%m:=by simp
  rw[<-e4,Int.emod_eq_of_lt O O];omega
 exact Wx37_
theorem _root_.Go.Ink.Inv.TX{w0:World}{S:List Nat}{cs:List bJ}{s:St}{Ad Ar:Oa}{cd cr:Nat}(hi:Inv w0 S cs w)(h1:Vk cs (Vf s Ad cd))(h2:Vk cs (Vj s Ar cr))(hd:J s.d*4<=140737488355328)(hr:J s.r*4<=140737488355328):iL w s Ad Ar cd cr:=
 ⟨hi.rd h1,hi.rd h2,hd,hr⟩
theorem uy(s:St)(Ad Ar:Oa)(cd cr:Nat)(SU addr:Int)(w:World)(h:iL w s Ad Ar cd cr):UW prog 142 [sv s Ad cd Ar cr,.i SU,.w addr] w [] (CK (s.S3 SU addr)):=by
 refine UV func142 ntmps142 ?_;refine An ?_;refine ZO λb3=>?_;refine ZN λb6=>?_
 refine UQ ?_;refine QW ?_;exact Wx30_
theorem Kq(s:St)(Ad Ar:Oa)(cd cr:Nat)(w:World)(h:iL w s Ad Ar cd cr):UW prog 262 [sv s Ad cd Ar cr] w [] (CK s.back):=by
 refine UV func262 ntmps262 ?_;refine An ?_;refine ZO λb1=>?_;refine ZN λb2=>?_
 refine UQ ?_;refine QW ?_;exact Wx70_
theorem Uc(w:World):CW prog 90 [] w (sv St.new none 0 none 0):=by
 refine UV func90 ntmps90 ?_;refine An ?_;refine ZN λb0=>?_;refine UQ ?_;refine oV ?_;exact EC
theorem Ss(s:St)(dv rv:Value)(reg:Int)(w:World):CW prog 249 [.agg (s.cells dv rv).toArray,.i reg] w (.tuple #[.w (s.get reg).1,.bool (s.get reg).2]):=by
 refine UV func249 ntmps249 ?_;refine An ?_;refine ZO λb2=>?_;refine wD ?_;refine ZW ?_ ?_<;>intro hc2
 .exact XW
 refine UH ?_ ?_<;>intro hc4
 .exact XW
 refine UH ?_ ?_<;>intro hc6
 .exact Xn
 refine UH ?_ ?_<;>intro hc8
 .exact Xn
 refine UH ?_ ?_<;>intro hc10
 .exact Xn
 refine UH ?_ ?_<;>intro hc12
 .exact Xn
 refine UH ?_ ?_<;>intro hc14
 .exact Xn
 refine UH ?_ ?_<;>intro hc16
 .exact XW
 refine UH ?_ ?_<;>intro hc18
 .exact XW
 refine UH ?_ ?_<;>intro hc20
 .refine UK ?_;refine mU ?_;refine US ?_;refine po ?_;refine⟨?_,I⟩;exact tE
 refine UH ?_ ?_<;>intro hc22
 .exact Xn
 refine eL ?_;refine po ?_;refine⟨?_,I⟩;exact tE
theorem R7(s:St)(Ad Ar:Oa)(cd cr:Nat)(reg v:Int)(w:World)(h:iL w s Ad Ar cd cr):UW prog 250 [sv s Ad cd Ar cr,.i reg,.w v] w []
  (λx cs=>∃Ad' cd' Ar' cr',x= .tuple #[sv (s.set reg v).1 Ad' cd' Ar' cr',.bool (s.set reg v).2]/\cs=[Vf s Ad' cd',Vj s Ar' cr']):=by
 refine UV func250 ntmps250 ?_;refine An ?_;refine ZO λb3=>?_;refine ZN λb6=>?_
 refine UU ?_;refine QW ?_;rintro _ _ ⟨_,⟨A1,c1,A2,c2,rfl,rfl⟩,rfl⟩;refine ZM ?_;refine nW ?_;refine ZW ?_ ?_<;>intro hc4
 .exact Wt
 refine UH ?_ ?_<;>intro hc6
 .exact Wt
 refine UH ?_ ?_<;>intro hc8
 .refine An ?_;refine Zy (tM py py I) ?_;refine Wv ?_;exact YO
 refine UH ?_ ?_<;>intro hc10
 .exact WE
 refine UH ?_ ?_<;>intro hc12
 .exact WE
 refine UH ?_ ?_<;>intro hc14
 .exact WE
 refine UH ?_ ?_<;>intro hc16
 .exact WE
 refine UH ?_ ?_<;>intro hc18
 .exact Wt
 refine UH ?_ ?_<;>intro hc20
 .exact Wt
 refine UH ?_ ?_<;>intro hc22
 .exact Wt
 exact Wx39_
theorem mJ(s:St)(Ad Ar:Oa)(cd cr:Nat)(w:World):CW prog 125 [sv s Ad cd Ar cr] w (.bool s.right):=by
 refine UV func125 ntmps125 ?_;refine An ?_;refine ZO λb1=>?_;refine jS ?_;exact mZ
theorem xy(s:St)(Ad Ar:Oa)(cd cr:Nat)(w:World)(h:iL w s Ad Ar cd cr):UW prog 98 [sv s Ad cd Ar cr] w [] (CK s):=by
 have hd:=h.hd;have hr:=h.hr;refine UV func98 ntmps98 ?_;refine An ?_;refine ZO λb1=>?_;refine ZN λb2=>?_
 refine UK ?_;refine jQ ?_;rintro _ _ ⟨b3,rfl,rfl⟩;refine An ?_;refine gS (cC (e:=32) (sz:=1) (bytes:=4) I I Za I I (λw hi=>h.d.Tb hi) cR gD O) I ?_;rintro _ _ ⟨A1,c1,rfl,rfl⟩;simp only[bC,aR];refine lx ?_;refine UK ?_;refine jQ ?_;rintro _ _ ⟨b8,rfl,rfl⟩;refine An ?_;refine gS (cC (e:=32) (sz:=1) (bytes:=4) I I Za I I (λw hi=>h.r.Tb hi) cR gD O) I ?_;rintro _ _ ⟨A2,c2,rfl,rfl⟩;simp only[bC,aR];refine lx ?_;refine UQ ?_;refine oV ?_;exact lL (cs':=[slv _ _ _ _ _ _,slv _ _ _ _ _ _]) (.inl I) Zu I I Zh ir ir ⟨A1,c1,A2,c2,I,I⟩
theorem Fh(A A2:Oa)(c c2:Nat)(xs ys:Li)(w:World)(h:Rd w .u32 A (J xs) c xs)(h2:Rd w .u32 A2 (J ys) c2 ys):
  CW prog 139 [.slice A (J xs) c,.slice A2 (J ys) c2] w (.bool (xs==ys)):=by
 have hm:=h.max;have hc:=h.cap;unfold maxLen at hm;refine UV func139 ntmps139 ?_;refine nW ?_;refine ZW ?_ ?_<;>intro hc1
 .have hne:(xs==ys)=false:=by rw[bF];rintro rfl;simp at hc1
  refine wv ?_
  grind
 have hlen:J xs=J ys:=by(have:(J xs:Int)=J ys:=by simpa using hc1);omega
 refine U8 ?_;refine Vs (λk:Nat=>[(5,.i (k:Int)),(0,.slice A (J xs) c),(1,.slice A2 (J ys) c2)]) (λ_=>[]) (λk=>k<=J xs/\xs.take k=ys.take k) (λk=>J xs - k) (0) bZ ?_;rintro k ⟨hk,he⟩;refine Wc ?_ ?_<;>intro hc4
 .simp only[ai]at hc4;obtain⟨ad,rfl⟩:=h.some_ O;obtain⟨ad2,rfl⟩:=h2.some_ O;refine UQ ?_;refine jf ?_;refine lO ?_;refine UY 2 I (cZ I ir (Zv I) (Zv I) ir UL) ?_;refine Vn 3 I (bO ir (Zv I)) (dK h (lr (show k<J xs by omega))) ?_;refine ZE 4 ?_;refine ZE 5 ?_;refine UY 6 I (cZ I ir (Zv I) (Zv I) ir UL) ?_;refine Vn 7 I (bO ir (Zv I)) (dK h2 (lr (show k<J ys by omega))) ?_;refine ZE 8 ?_;refine tC ?_;refine ZW ?_ ?_<;>intro hc6
  .have hne:(xs==ys)=false:=by rw[bF];rintro rfl;simp at hc6
   refine nY ?_;exact⟨by rw[hne],rfl⟩
  have heq:xs[k]'(by omega)=ys[k]'(by omega):=by simpa using hc6
  refine j5 ?_;refine VM (k+1) ⟨⟨by omega,?_⟩,by omega⟩;rw[List.take_succ_eq_append_getElem O,List.take_succ_eq_append_getElem O,he,heq]
 simp only[aa]at hc4;refine nY ?_;refine⟨?_,I⟩;have hkk:k=J xs:=by omega
 subst hkk;rw[List.take_length]at he;rw[he,hlen,List.take_length];simp
set_option maxRecDepth 100000 in
theorem Fp(s t:St)(Ad Ar Bd Br:Oa)(cd cr ed er:Nat)(w:World)(h:iL w s Ad Ar cd cr)(h2:iL w t Bd Br ed er):
  CW prog 92 [sv s Ad cd Ar cr,sv t Bd ed Br er] w (.bool (s.Uh t)):=by
 refine UV func92 ntmps92 ?_;refine An ?_;refine ZO λb2=>?_;refine ZO λb3=>?_
 refine nW ?_;refine dC (bS I I) (.cons (cO I) (.cons (cO I) .nil)) (λ_ _=>I) (λhg w hi=>Fh Ad Bd cd ed s.d t.d w (h.d.Tb hi) (h2.d.Tb hi)) I (UU ?_);refine dC (bS I I) (.cons (cO I) (.cons (cO I) .nil)) (λ_ _=>I) (λhg w hi=>Fh Ar Br cr er s.r t.r w (h.r.Tb hi) (h2.r.Tb hi)) I (jS ?_);refine jS ?_;refine jS ?_;refine jS ?_;refine oO ?_;exact wQ
theorem St.UB(s:St){x:Int}(h:0<=x/\x<=10):(s.get x).2=true:=by
 rcases St.T8 h with rfl|rfl|rfl|rfl|rfl|rfl|rfl|rfl|rfl|rfl|rfl<;>rfl
theorem St.get_none(s:St){x:Int}(h:x<0\/10<x):(s.get x).2=false:=by
 unfold St.get;have e:∀k:Int,0<=k->k<=10->(x==k)=false:=λk _ _=>by grind
 exact Wq413
theorem St.regs_at(s:St){reg:Int}(h:0<=reg/\reg<=10):s.Tu[reg.toNat]? =some (s.get reg).1:=by
 rcases St.T8 h with rfl|rfl|rfl|rfl|rfl|rfl|rfl|rfl|rfl|rfl|rfl<;>rfl
theorem St.UC(s:St){x:Int}(h:x<0\/10<x):(s.get x).1=0:=by
 unfold St.get;have e:∀k:Int,0<=k->k<=10->(x==k)=false:=λk _ _=>by grind
 exact Wq413
theorem Ds(s:St)(Ad Ar:Oa)(cd cr:Nat)(w:World):CW prog 164 [sv s Ad cd Ar cr] w (.bool s.right):=by
 refine UV func164 ntmps164 ?_;refine An ?_;refine ZO λb1=>?_;refine jS ?_;refine UK ?_;refine Wl ?_;rw[St.right_lt];exact fx
theorem Gt(b:Bool)(w:World):CW prog 333 [.bool b] w (.w (Vx b)):=by
 refine UV func333 ntmps333 ?_;refine yh ?_ ?_<;>intro hc1
 .subst hc1;refine US ?_;exact wQ
 subst hc1;refine fS ?_;exact fx
theorem ov(s:St)(Ad Ar:Oa)(cd cr:Nat)(SU addr:Int)(w:World)(h:iL w s Ad Ar cd cr):UW prog 119 [sv s Ad cd Ar cr,.i SU,.w addr] w [] (CK (s.S3 SU addr)):=by
 refine UV func119 ntmps119 ?_;refine An ?_;refine ZO λb3=>?_;refine ZN λb6=>?_
 refine UQ ?_;refine Q2 ?_;exact Wx30_
theorem Bi(s:St)(Ad Ar:Oa)(cd cr:Nat)(w:World)(h:iL w s Ad Ar cd cr):UW prog 278 [sv s Ad cd Ar cr] w [] (CK s.back):=by
 refine UV func278 ntmps278 ?_;refine An ?_;refine ZO λb1=>?_;refine ZN λb2=>?_
 refine UQ ?_;refine Q2 ?_;exact Wx70_
theorem Kv(s:St)(dv rv:Value)(reg:Int)(w:World):CW prog 279 [.agg (s.cells dv rv).toArray,.i reg] w (.tuple #[.w (s.get reg).1,.bool (s.get reg).2]):=by
 refine UV func279 ntmps279 ?_;refine An ?_;refine ZO λb2=>?_;refine nW ?_;refine ZW ?_ ?_<;>intro hc1
 .have hr:reg<0\/10<reg:=by simpa using hc1
  refine Va ?_;refine po ?_;rw[St.get_none s hr,St.UC s hr];exact fx
 have hr:0<=reg/\reg<=10:=by(simp only[aZ,aa]at hc1;omega)
 refine UN ?_;refine jf ?_;refine UE 0 6 ?_;refine ZG 1 ?_;refine UE 3 5 ?_;refine ZG 4 ?_;refine UE 6 7 ?_;refine ZG 7 ?_;refine UE 8 8 ?_;refine ZG 9 ?_;refine UE 10 9 ?_;refine ZG 11 ?_;refine UE 12 10 ?_;refine ZG 13 ?_;refine UE 14 11 ?_;refine ZG 15 ?_;refine UE 16 12 ?_;refine ZG 17 ?_;refine UE 19 13 ?_;refine ZG 20 ?_;refine UE 22 14 ?_;refine ZG 23 ?_;refine UY 24 I (cz I I py I) ?_;refine UE 25 3 ?_;refine ZG 26 ?_;refine ZE 28 ?_;refine cP 2 Zk (V1 (λw hi=>Gt _ w) ?_);refine UR ?_;refine cP 5 Zk (V1 (λw hi=>Gt _ w) ?_);refine UR ?_;refine cP 18 Zk (V1 (λw hi=>Gt _ w) ?_);refine UR ?_;refine cP 21 Zk (V1 (λw hi=>Gt _ w) ?_);refine UR ?_;refine cP 27 Zk (wW ?_);rintro _ _ ⟨b39,rfl,rfl⟩;refine UY 29 I (cn (j:=reg.toNat) (sz:=1) (r:=reg.toNat) I ir (Zv I) (Zv I) UL UL O) ?_;refine Vn 30 I (bO ir (Zv I)) (da (j:=reg.toNat) Zh (show(ints .u32 s.Tu)[reg.toNat]? =_ from cw (s.regs_at hr))) ?_;refine ZE 31 ?_;refine ZE 32 ?_;refine pk ?_;refine po ?_;rw[St.UB s hr];exact fx
theorem Ku(s:St)(Ad Ar:Oa)(cd cr:Nat)(reg v:Int)(hv:u32 v)(w:World)(h:iL w s Ad Ar cd cr):UW prog 280 [sv s Ad cd Ar cr,.i reg,.w v] w []
  (λx cs=>∃Ad' cd' Ar' cr',x= .tuple #[sv (s.set reg v).1 Ad' cd' Ar' cr',.bool (s.set reg v).2]/\cs=[Vf s Ad' cd',Vj s Ar' cr']):=by
 refine UV func280 ntmps280 ?_;refine An ?_;refine ZO λb3=>?_;refine ZN λb6=>?_
 refine UU ?_;refine Q2 ?_;rintro _ _ ⟨_,⟨A1,c1,A2,c2,rfl,rfl⟩,rfl⟩;refine ZM ?_;refine nW ?_;refine ZW ?_ ?_<;>intro hc4
 .exact Wt
 refine UH ?_ ?_<;>intro hc6
 .exact Wt
 refine UH ?_ ?_<;>intro hc8
 .refine An ?_;refine Zy (kf (Zv I) (Zv I) O I) ?_;refine Zy (fT py py (mul64 v hv)) ?_;refine Wv ?_;exact YO
 refine UH ?_ ?_<;>intro hc10
 .exact WE
 refine UH ?_ ?_<;>intro hc12
 .exact WE
 refine UH ?_ ?_<;>intro hc14
 .exact WE
 refine UH ?_ ?_<;>intro hc16
 .exact WE
 refine UH ?_ ?_<;>intro hc18
 .exact Wt
 refine UH ?_ ?_<;>intro hc20
 .exact Wt
 refine UH ?_ ?_<;>intro hc22
 .refine An ?_;refine Zy (fG (Zv I) (Zv I) O (rem16 v hv)) ?_;refine Wv ?_;exact YO
 exact Wx39_
end
end Go.Ink
namespace Go.Ink
open List renaming length→J, replicate→R9
open IntKind renaming wrap→V9
open Go.RowKit Go.Proofs.Tryz
variable{j:Nat}{b:Bool}
theorem zT{l:List Bool}(h:l[j]? =some b):(lH l)[j]? =some (.bool b):=by simp[lH,h]
section
variable{B ow pr:Li}
theorem xB(hl:eV B ow pr){i:Nat}(v:Int):(du B ow pr).set (16640+i) (.i v)=du B ow (pr.set i v):=by
 grind [du,dF,hl.b,hl.ow,eK]
end
section
attribute [local irreducible] Ve bN
variable{α:Type}{n k:Nat}
theorem yX(a b:α)(h:k<n):(R9 k a++R9 (n - k) b).set k a=R9 (k+1) a++R9 (n - (k+1)) b:=by
 rw[List.set_append_right _ _ cJ,az,Nat.sub_self,show n - k=(n - (k+1))+1 by omega,List.replicate_succ,List.set_cons_zero,List.replicate_succ',aw]
 rfl
theorem yZ(n:Nat)(a:Bool):R9 n (Value.bool a)=lH (R9 n a):=by simp[lH]
theorem O6{B ow pr:Li}(hl:eV B ow pr):((du B ow pr).drop 16640).take (J (ints .i64 pr))=ints .i64 pr:=by
 grind [du,dF,hl.b,hl.ow,ints,List.append_assoc,List.drop_append,List.drop_eq_nil_of_le,List.take_length]
theorem zF(w:World):UW prog 65 [] w [] (λv cs=>∃bp,v= .p bp/\cs=[ft bp (R9 16384 0) (R9 256 (-1)) (R9 4 (-1))]):=by
 have hl1:∀k,k<=256->eV (R9 16384 0) (R9 k (-1)++R9 (256 - k) 0) (R9 4 0):=λk hk=>⟨az,by simp;omega,rfl⟩
 have hl2:∀k,k<=4->eV (R9 16384 0) (R9 256 (-1)) (R9 k (-1)++R9 (4 - k) 0):=λk hk=>⟨az,az,by simp;omega⟩
 refine UV func65 ntmps65 ?_;refine US ?_;refine Zy (ip (vs:=du (R9 16384 0) (R9 256 0) (R9 4 0)) Zk (.inl ⟨_,I,I⟩)) ?_;refine ZO λb5=>?_
 rw[<-yY 256 (-1:Int) 0];refine eL ?_;refine Vs (λk:Nat=>[(1,.p b5),(6,.i (k:Int))]) (λk=>[ft b5 (R9 16384 0) (R9 k (-1)++R9 (256 - k) 0) (R9 4 0)]) (λk=>k<=256) (λk=>256 - k) (0) O ?_;rintro k hk;refine UH ?_ ?_<;>intro hc3
 .simp only[ai]at hc3;refine kF ?_;refine XR 16384 ?_;refine Zy (dj (j:=k) (sz:=1) (r:=16384+k) I ir (Zv I) (Zv I) UL UL O) ?_;refine eA (jB ir I I I Za (by rw[gV (hl1 k hk)];omega)) ?_;refine UR ?_;rw[xC (hl1 k hk) O,yX _ _ O];exact Xl
 simp only[aa]at hc3;obtain rfl:k=256:=by omega
 refine Va ?_;rw[Dn,<-yY 4 (-1:Int) 0];refine UK ?_;refine Vs (λk:Nat=>[(1,.p b5),(15,.i (k:Int))]) (λk=>[ft b5 (R9 16384 0) (R9 256 (-1)) (R9 k (-1)++R9 (4 - k) 0)]) (λk=>k<=4) (λk=>4 - k) (0) O ?_;rintro k hk;refine UH ?_ ?_<;>intro hc8
 .simp only[ai]at hc8;refine kF ?_;refine XR 16640 ?_;refine Zy (dj (j:=k) (sz:=1) (r:=16640+k) I ir (Zv I) (Zv I) UL UL O) ?_;refine eA (jB ir I I I Za (by rw[gV (hl2 k hk)];omega)) ?_;refine UR ?_;rw[xB (hl2 k hk),yX _ _ O];exact Xl
 simp only[aa]at hc8;obtain rfl:k=4:=by omega
 refine US ?_;rw[Dn];refine UQ ?_;refine VA ([row _ _ _]) ?_;exact⟨_,I,I⟩
theorem Hv(bp:Nat)(B ow pr:Li)(hl:eV B ow pr)(o n:Nat)(ho:o<4)(hn:n<=64)(h1:pr[o]? =some (-1))(hs:(n:Int)+nv pr 4<=240)(hb:∀x,x∈pr->x<=1000):CI prog 158 [.p bp,.i o,.i n] [ft bp B ow pr] (λv cs=>v= .i 0/\cs=[ft bp B ow (pr.set o n)]):=λw hi=>by
 have hpl:=hl.pr;have hbd:∀k,k<=4->0<=nv pr k/\nv pr k<=1000*(k:Int):=by
  intro k
  induction k with
  |zero=>intro _;exact⟨by simp[nv],by simp[nv]⟩
  |succ k ih=>
   intro hk;have h1:=ih O;have hkl:k<J pr:=by omega
   have h2:=hb _ (List.getElem_mem hkl);rw[xn hkl];omega
 refine Vb func158 ntmps158 hi ?_;refine eL ?_;refine υ ?_;refine fR ?_;refine cK I (bZ) (UQ ?_);refine XR 16640 ?_;refine Zy (dj (j:=o) (sz:=1) (r:=16640+o) I ir (Zv I) (Zv I) UL UL O) ?_;refine dZ (bO ir py) (cT Zh (KP hl h1)) I (UK ?_);refine lN ?_;refine fR ?_;have e0:nv pr 0=0:=rfl;refine An ?_;refine XR 16640 ?_;refine dZ (bX (vs:=ints .i64 pr) ir (λw=>by rw[dF,hpl];rfl) (Zv rfl)) (cq (o:=16640) Zh (O6 hl)) rfl (UK ?_);refine Vs (λk:Nat=>[(0,.p bp),(1,.i o),(2,.i n),(7,.i (n+nv pr k)),(34,.agg (ints .i64 pr).toArray),(35,.i (k:Int))]) (λ_=>[ft bp B ow pr]) (λk=>k<=4) (λk=>4 - k) (0) O ?_;rintro k hk;refine UH ?_ ?_<;>intro hc7
 .simp only[ai]at hc7;have hkl:k<J pr:=by omega
  have hbk:=hbd k hk;have hbk2:=hb _ (List.getElem_mem hkl);refine UU ?_;refine Zy (EH (j:=k) I ir ir (Zv I) (Zv I) UL UL (λ_=>lr hkl)) ?_;refine UU ?_;refine Zy (CT py py I) ?_;refine dZ (dy (sL I) (sL I) (show V9 .i64 _=n+nv pr (k+1) by rw[xn hkl];refine(aQ _ ⟨?_,?_⟩).trans O<;>split<;>omega)) (λ_ _=>trivial) I ?_;refine j5 ?_;refine VM (k+1) O
 simp only[aa]at hc7;obtain rfl:k=4:=by omega
 refine fR ?_;refine cK I ((ao O)) (Va ?_);refine XR 16640 ?_;refine Zy (dj (j:=o) (sz:=1) (r:=16640+o) I ir (Zv I) (Zv I) UL UL O) ?_;refine eA (jB ir I I I Za (by rw[gV hl];omega)) ?_;refine UR ?_;rw[xB hl];refine Va ?_;exact Ew
theorem eT.new{L:fF}(ho:L.o<4)(h1:1<=L.n)(h64:L.n<=64){pr:Li}(hl:eV L.gB L.gw pr)(hg:L.gp=pr.set L.o L.n)(hno:∀x,x∈L.gw->x≠(L.o:Int))(hc:L.n<=J ((List.range' 16 240).filter (λf=> !L.oth f))):
  eT L (UO.new L.n) ⟨L.gB,L.gw,L.gp,R9 L.n (-1),R9 L.n false⟩:=by
 refine⟨⟨hl.b,hl.ow,by grind [hl.pr]⟩,ho,h1,h64,az,az,az,az,?_,?_,?_,?_,?_,rfl,hc⟩
 .intro x hx;have:=List.eq_of_mem_replicate hx;omega
 .intro p hp;left;refine⟨by grind,λj hj=>?_⟩;show(R9 (L.n*64) (0:Int))[p*64+j]? =_
  grind
 .grind
 .grind [hl.ow,fF.oth]
 grind [hl.pr]
variable{a:Nat}
theorem IJ{l:List Bool}(h:j<J l):(lH l)[j]? =some (.bool (l.getD j false)):=by
 grind [zT]
theorem F5(kind:Int)(w:World):CW prog 181 [.i kind] w (.i (Vo kind)):=by
 refine UV func181 ntmps181 ?_;refine wn ?_;refine ZW ?_ ?_<;>intro hc2
 .refine fS ?_;exact Yb
 refine UH ?_ ?_<;>intro hc4
 .refine fS ?_;exact Yb
 refine UH ?_ ?_<;>intro hc6
 .refine fS ?_;exact Yb
 refine jP ?_;exact Yb
theorem Oc(kind:Int)(SQ:Bool)(w:World):CW prog 286 [.i kind,.bool SQ] w (.w (oP kind SQ)):=by
 refine UV func286 ntmps286 ?_;refine jS ?_;refine VP ?_ ?_<;>intro hc3
 .refine uf ?_ ?_<;>intro hc9
  .have hs:SQ=false:=by simpa using hc9
   exact WG
  have hs:SQ=true:=by simpa using hc9
  exact WF
 refine UH ?_ ?_<;>intro hc5
 .refine uf ?_ ?_<;>intro hc9
  .have hs:SQ=false:=by simpa using hc9
   exact WG
  have hs:SQ=true:=by simpa using hc9
  exact WF
 refine UH ?_ ?_<;>intro hc7
 .refine uf ?_ ?_<;>intro hc9
  .have hs:SQ=false:=by simpa using hc9
   exact WG
  have hs:SQ=true:=by simpa using hc9
  exact WF
 refine oU ?_ ?_<;>intro hc9
 .have hs:SQ=false:=by simpa using hc9
  exact WG
 have hs:SQ=true:=by simpa using hc9
 exact WF
theorem vT(a:Int)(w:World):CW prog 183 [.w a] w (.bool (iG a)):=by
 refine UV func183 ntmps183 ?_;exact WW
theorem uw(bu bm bb:Nat)(w:World)(h:(JH bu bm bb).ok w):CW prog 43 [.p bu] w (.p bm):=by
 refine UV func43 ntmps43 ?_;refine ww ?_;exact mZ
end
end Go.Ink
namespace Go.Ink
open List renaming length→J, replicate→R9
open IntKind renaming wrap→V9
open Go.RowKit Go.Proofs.Tryz
section
attribute [local irreducible] Ve bN
theorem rz(b:Nat)(p m:Int)(w:World)(h:(rE b p m).ok w):CW prog 39 [.p b] w (.w p):=by
 refine UV func39 ntmps39 ?_;refine ww ?_;exact mZ
theorem D1(b:Nat)(p m:Int)(w:World)(h:(rE b p m).ok w):CW prog 41 [.p b] w (.w m):=by
 refine UV func41 ntmps41 ?_;refine ww ?_;exact mZ
theorem EV(b:Nat)(t:Int)(w:World)(h:(On b t).ok w):CW prog 131 [.p b] w (.w t):=by
 refine UV func131 ntmps131 ?_;refine ww ?_;exact mZ
theorem Cp(b:Nat)(Ao:Oa)(no co:Nat)(Ai:Oa)(ni ci:Nat)(w:World)(h:(zP b Ao no co Ai ni ci).ok w):CW prog 103 [.p b] w (.i ni):=by
 refine UV func103 ntmps103 ?_;refine ww ?_;exact qP
theorem Me(op:Int)(w:World):CW prog 248 [.i op] w (.bool (lC op)):=by
 refine UV func248 ntmps248 ?_;exact WW
theorem zf(r:Int)(w:World):CW prog 320 [.w r] w (.w (dw r)):=by
 refine UV func320 ntmps320 ?_;refine wD ?_;refine ZW ?_ ?_<;>intro hc2
 .refine uf ?_ ?_<;>intro hc4
  .refine qO ?_;exact XX
  refine jP ?_;exact XX
 refine oU ?_ ?_<;>intro hc4
 .refine qO ?_;exact XX
 refine jP ?_;exact XX
abbrev gU(K:Jp)(X:dz)(R:UG):List bJ:=[xt K X R,Vf R.s X.Ad X.cd,Vj R.s X.Ar X.cr]
theorem OG(K:Jp)(X:dz)(R:UG)(w:World)(h:(xt K X R).ok w):
  CW prog 325 [.p K.br] w (.agg #[.bool R.s.S1,.bool R.s.SQ,.w R.s.root]):=by
 refine UV func325 ntmps325 ?_;refine An ?_;refine ZN λb2=>?_;refine UN ?_;refine bQ (Vg [16]) Zk (nZ ?_);refine UE 3 5 ?_;refine Vn 4 I (bO ir (Zv I)) (cW gQ I) ?_;refine qM ?_;refine UE 7 0 ?_;refine UE 8 4 ?_;refine Vn 9 I (bO ir (Zv I)) (cW gQ I) ?_;refine ZE 10 ?_;refine ZE 11 ?_;refine UE 12 0 ?_;refine UE 13 7 ?_;refine Vn 14 I (bO ir (Zv I)) (cW gQ I) ?_;refine ZE 15 ?_;refine cP 16 Zk (ZR ?_);refine pk ?_;exact EC
end
end Go.Ink
namespace Go.Ink
open List renaming length→J
open Go.RowKit
theorem OZ{w0:World}{S:List Nat}{cs:List bJ}{n c j:Nat}{ad:Addr}{xs:List Value}{v:Value}(hc:Vk cs (Wo (some ad) n c xs))(hv:xs[j]? =some v):∀w,Inv w0 S cs w->cells [(ad.add (j*1),v)] w:=λw hi z hz=>by
 rw[aX]at hz;subst hz;rw[Nat.mul_one];exact(oZ (hi.get hc)).at_ ad I j v hv
section
variable{cs:List bJ}{v:Value}{x:Operand}
theorem jM{w:World}{ad:Addr}{b:Nat}:∀{vs:List Value} {i:Nat},(∀j v,vs[j]? =some v->w.cell? (ad.add (b+i+j))=some v)->cells (fa (ad.add b) i vs) w
 |[],_,_=>λx hx=>by cases hx
 |u::vs,i,h=>λx hx=>by
  rcases aI.1 hx with rfl|hx
  .show w.cell? ((ad.add b).add i)=some u;rw[rW];exact h 0 u I
  exact jM (vs:=vs) (i:=i+1) (λj v hj=>by
   have:=h (j+1) v (by simpa using hj);rwa[show b+i+(j+1)=b+(i+1)+j by omega]at this) x hx
theorem fB{w0:World}{sz n c b:Nat}{ad:Addr}{xs vs:List Value}(h:U5 w0 sz (some ad) n c xs)(hv:∀j v,vs[j]? =some v->xs[b+j]? =some v):∀w,Inv w0 [] cs w->cells (fa (ad.add b) 0 vs) w:=λw hi=>
 jM λj v hj=>by
  rw[Nat.add_zero];exact(h.Tb hi).at_ ad I (b+j) v (hv j v hj)
end
theorem AS{w0:World}{S:List Nat}{cs:List bJ}{e sz n c b:Nat}{ad:Addr}{xs vs:List Value}(hc:Vk cs (slv e sz (some ad) n c xs))(hv:∀j v,vs[j]? =some v->xs[b+j]? =some v):∀w,Inv w0 S cs w->cells (fa (ad.add b) 0 vs) w:=λw hi=>
 jM λj v hj=>by
  rw[Nat.add_zero];exact(cY (hi.get hc)).at_ ad I (b+j) v (hv j v hj)
theorem oA{w0:World}{S:List Nat}{cs:List bJ}{n c j:Nat}{ad:Addr}{xs:List Value}{v:Value}(h:∀w',dc S w0 w'->U5 w' 1 (some ad) n c xs)(hv:xs[j]? =some v):∀w,Inv w0 S cs w->cells [(ad.add (j*1),v)] w:=λw hi z hz=>by
 rw[aX]at hz;subst hz;rw[Nat.mul_one];exact(h w hi.To).at_ ad I j v hv
theorem E7{w0:World}{S:List Nat}{cs:List bJ}{e sz n c j bb:Nat}{xs:List Value}{v:Value}(hc:Vk cs (slv e sz (sA bb) n c xs))(hv:xs[j]? =some v):∀w,Inv w0 S cs w->cells [(⟨bb,j,none⟩,v)] w:=λw hi z hz=>by
 rw[aX]at hz;subst hz;have:=(hi.rd hc).at_ _ I j v hv;rw[Addr.add_lit,bC]at this;exact this
section
variable{C:Cx}{fr:Fr}{cs:List bJ}{d:Option Nat}{T:TypeId}{x y:Operand}{ty:TypeId}{pos:String}{af:Array Edge}{gd:Option (Nat×Bool)}{v:Value}
theorem EW{bb o n c e sz:Nat}{xs:List Value}{mk:bJ->List bJ}(hT:∀w,(sizeOf T).run C.P w= .ok 1 w)(hx:ev fr x=some (.pointer (some ⟨bb,o,none⟩)))(hy:ev fr y=some v)(h1:v.oneCell'=true)(hu:At cs (slv e sz (sA bb) n c xs) mk)(ho:o<n*sz):
  VU C ⟨d,.store T x y,ty,pos,af,gd⟩ fr cs true (λu cs'=>u=undef/\cs'=mk (slv e sz (sA bb) n c (xs.set o v))):=λa w hf hi next Q h=>by
 have hown:w.ownsRow 0 e sz (.slice (sA bb) n c) n xs:=hi.get hu.has;have hlen:=hown.1;have hc:w.cell? ⟨bb,o,none⟩=some (xs[o]'(by omega)):=by
  rw[hown.cellAt o O];exact ak O
 have hfz:w.frozen? ⟨bb,o,none⟩=false:=hown.frozenAt o;have hcs:v.cells= #[v]:=by cases v<;>first|rfl|cases h1
 have hr:(execOp a.eval ⟨d,.store T x y,ty,pos,af,gd⟩).run C.P w= .ok .skip (w.setCell ⟨bb,o,none⟩ v):=by
  exact Wq449
 unfold Oper.wp;rw[hr];obtain⟨h2,h3⟩:=hown.stored o v;have hk:=dc.T4 (show w.grownBy (w.setCell ⟨bb,o,none⟩ v) (Value.slice (sA bb) n c).ownBlock from h3);refine h _ _ _ ⟨I,I⟩ (hi.upd (hu _) hk (kS hk h2 λa ha=>?_)) (λe=>by cases e);obtain rfl:(⟨bb,0,none⟩:Addr)=a:=by simpa using ha
 left;simp[slv,bJ.bs,ab]
end
section
open Go.MapKept
open Go.ChangeMaps (setBlock)
open Go.Maps (Keyed)
def dS{β:Type}(L:List (Ky×β))(k:Ky)(v:β):List (Ky×β):=match cN (·.1) k L with
 |some j=>L.set j (k,v)
 |none=>L++[(k,v)]
end
end Go.Ink
namespace Go.Ink
open List renaming length→J, replicate→R9
open IntKind renaming wrap→V9
open Go.RowKit Go.Proofs.Tryz
section
attribute [local irreducible] Ve bN
abbrev nD(K:gi)(n:Nat)(data:Li)(tu:List Bool):List bJ:=[row K.bm [.slice (sA K.bB) (n*64) (n*64),.slice (sA K.bT) n n] 89,sl .u8 5 (sA K.bB) (n*64) (n*64) data,slv 4 1 (sA K.bT) n n (lH tu)]
end
end Go.Ink
namespace Go.Ink
open List renaming length→J
open IntKind renaming wrap→V9
open Go.RowKit
variable{l:Li}
theorem u8s_set(h:Vh l){a:Nat}{b:Int}(hb:0<=b/\b<=255):Vh (l.set a b):=λx hx=>by
 rcases List.mem_or_eq_of_mem_set hx with h1|h1
 .exact h x h1
 omega
end Go.Ink
namespace Go.Ink
open List renaming length→J, replicate→R9
open IntKind renaming wrap→V9
open Go.RowKit Go.Proofs.Tryz
variable{i:Nat}{b:Bool}
theorem P7{l:List Bool}{j:Nat}(h:j≠i):(l.set i b).getD j false=l.getD j false:=by
 rw[aS,aS,List.getElem?_set_ne (Ne.symm h)]
variable{n:Nat}
theorem J4{l:List Bool}:(l.set i b).take n=(l.take n).set i b:=List.take_set ..
section
attribute [local irreducible] Ve bN
abbrev V6(K:gi)(n:Nat)(M:UO):List bJ:=nD K n M.data (M.SX.take n)
variable{d:Li}
theorem DA(kind:Int)(w:World):CW prog 270 [.i kind] w (.i (Vo kind)):=by
 refine UV func270 ntmps270 ?_;refine oO ?_;refine ZW ?_ ?_<;>intro hc1
 .simp only[ay,ai]at hc1;refine UN ?_;refine Zy (dy (Zv I) (Zv I) (show _=7+kind from aQ _ ⟨by omega,by omega⟩)) ?_;refine Zy (ez (Zv I) (Zv I) (show _=Vo kind from(aQ _ ⟨by omega,by omega⟩).trans ((F6 hc1).trans O).symm)) ?_;exact qP
 simp only[Bool.and_eq_false_iff,aa]at hc1;refine fS ?_;rw[Ce O];exact fx
theorem xz(kind:Int)(SQ:Bool)(w:World):CW prog 269 [.i kind,.bool SQ] w (.w (oP kind SQ)):=by
 refine UV func269 ntmps269 ?_;refine jS ?_;refine VP ?_ ?_<;>intro hc3
 .refine uf ?_ ?_<;>intro hc9
  .have hs:SQ=false:=by simpa using hc9
   exact WG
  have hs:SQ=true:=by simpa using hc9
  exact WF
 refine UH ?_ ?_<;>intro hc5
 .refine uf ?_ ?_<;>intro hc9
  .have hs:SQ=false:=by simpa using hc9
   exact WG
  have hs:SQ=true:=by simpa using hc9
  exact WF
 refine UH ?_ ?_<;>intro hc7
 .refine uf ?_ ?_<;>intro hc9
  .have hs:SQ=false:=by simpa using hc9
   exact WG
  have hs:SQ=true:=by simpa using hc9
  exact WF
 refine oU ?_ ?_<;>intro hc9
 .have hs:SQ=false:=by simpa using hc9
  exact WG
 have hs:SQ=true:=by simpa using hc9
 exact WF
variable{a:Int}
theorem Dj{S8:Li}{s a:Nat}(h1:s+i<J S8)(h2:a+i<J d):(sr S8 d s a i).set (s+i) (gB d (a+i))=sr S8 d s a (i+1):=by
 unfold sr;have hl:J (S8.take s++(d.drop a).take i)=s+i:=by simp;omega
 have e1:S8.drop (s+i)=S8[s+i]'h1::S8.drop (s+i+1):=List.drop_eq_getElem_cons h1;have e2:(d.drop a).take (i+1)=(d.drop a).take i++[gB d (a+i)]:=by
  rw[List.take_succ_eq_append_getElem (by rw[List.length_drop];omega),List.getElem_drop];unfold gB;rw[aS,ak h2]
  rfl
 rw[List.set_append_right _ _ O,hl,Nat.sub_self,e1,List.set_cons_zero,e2,<-aw,aw (S8.take s++(d.drop a).take i),Nat.add_assoc]
 rfl
end
end Go.Ink
namespace Go.Ink
open List renaming length→J
open IntKind renaming wrap→V9
open Go.RowKit Go.Proofs.Tryz
set_option maxHeartbeats 1000000
section
attribute [local irreducible] Ve bN
abbrev VY(br:Nat)(X:dz)(s:St)(dv:Bool):List bJ:=[AY br X s false dv,Vf s X.Ad X.cd,Vj s X.Ar X.cr]
end
end Go.Ink
namespace Go.Ink
open List renaming length→J
open IntKind renaming wrap→V9
open Go.RowKit
def Wr(i:HI)(m:HM):Int×HM:=
  bif i.op==0 then(0,⟨m.Tu,m.words,m.pc+1⟩)else
  bif i.op==1 then(0,⟨m.Tu.set i.rd.toNat i.imm,m.words,m.pc+1⟩)else
  bif i.op==14||i.op==15 then
    (bif decide ((J m.words:Int)<=qs m.Tu i)then(4,m)else
     bif i.op==14 then(0,⟨m.Tu.set i.rd.toNat (m.words.getD (qs m.Tu i).toNat 0),m.words,m.pc+1⟩)
     else(0,⟨m.Tu,m.words.set (qs m.Tu i).toNat (V9 .u32 (rg m.Tu i.rb)),m.pc+1⟩))else
  bif i.op==16||i.op==17 then(0,⟨m.Tu,m.words,bif(rg m.Tu i.ra==0)==(i.op==16)then i.imm else m.pc+1⟩)else
  bif i.op==18 then(0,⟨m.Tu,m.words,i.imm⟩)else
  bif i.op==19 then(1,m)else(0,⟨m.Tu.set i.rd.toNat (kT i.op (rg m.Tu i.ra) (rg m.Tu i.rb)),m.words,m.pc+1⟩)
def Te(C:List HI)(m:HM):Int×HM:=
  bif decide (m.pc<0)||decide ((J C:Int)<=m.pc)then(2,m)else Wr (C.getD m.pc.toNat HI.zero) m
def ka(C:List HI):Nat->HM->(Int×Int)×HM
  |0,m=>((5,0),m)
  |f+1,m=>bif(Te C m).1==0 then ka C f (Te C m).2 else bif(Te C m).1==1 then((1,(C.getD (Te C m).2.pc.toNat HI.zero).imm),(Te C m).2)else(((Te C m).1,0),(Te C m).2)
structure UP(C:List HI)(k:Nat)(l:List HI)(R W:Li)(M:HM):Prop where
  at_:C.drop k=l
  rl:J R=16
  wl:J W=256
  ends:∃f,ka C f ⟨R,W,(k:Int)⟩=((1,1),M)
section
variable{C l:List HI}{k:Nat}{R W:Li}{M:HM}{i:HI}
theorem UP.code(h:UP C k (i::l) R W M):k<J C/\C.getD k HI.zero=i/\C.drop (k+1)=l:=by
  grind [h.at_,List.drop_eq_nil_of_le,List.drop_eq_getElem_cons,List.getElem?_eq_getElem]
theorem UP.Te(h:UP C k (i::l) R W M):Te C ⟨R,W,(k:Int)⟩=Wr i ⟨R,W,(k:Int)⟩:=by
  grind [h.code,Ink.Te,Wr,HI.zero]
variable{j:Nat}{l':List HI}
theorem UP.on{R' W':Li}(h:UP C k (i::l) R W M)(hd:Wr i ⟨R,W,(k:Int)⟩=(0,⟨R',W',(j:Int)⟩))(hr:J R'=16)(hw:J W'=256)(hl:C.drop j=l'):UP C j l' R' W' M:=by
  refine⟨hl,hr,hw,?_⟩;obtain⟨f,hf⟩:=h.ends;cases f with
  |zero=>cases hf
  |succ f=>
    grind [ka,h.Te]
theorem UP.exit{imm:Int}(h:UP C k (⟨19,0,0,0,imm⟩::l) R W M):imm=1/\M=⟨R,W,(k:Int)⟩:=by
  obtain⟨f,hf⟩:=h.ends;cases f with
  |zero=>cases hf
  |succ f=>
    unfold ka at hf;rw[h.Te]at hf;have e:Wr ⟨19,0,0,0,imm⟩ ⟨R,W,(k:Int)⟩=(1,⟨R,W,(k:Int)⟩):=rfl;rw[e]at hf;dsimp only at hf;rw[show((1:Int)==0)=false from I,show((1:Int)==1)=true from I,ac,ah]at hf;have h2:(((1:Int),(C.getD ((k:Int)).toNat HI.zero).imm),(⟨R,W,(k:Int)⟩:HM))=(((1:Int),(1:Int)),M):=hf;rw[aV,h.code.2.1]at h2
    grind
variable{ra:Nat}
theorem UP.bnez(h:UP C k (⟨17,0,(ra:Int),0,(j:Int)⟩::l) R W M)(hl:C.drop j=l'):R.getD ra 0=0/\UP C (k+1) l R W M\/R.getD ra 0≠0/\UP C j l' R W M:=by
  by_cases h0:R.getD ra 0=0
  . refine Or.inl ⟨h0,h.on ?_ h.rl h.wl h.code.2.2⟩
    show(0,(⟨R,W,bif(R.getD ((ra:Int)).toNat 0==0)==false then(j:Int)else(k:Int)+1⟩:HM))=_
    grind
  refine Or.inr ⟨h0,h.on ?_ h.rl h.wl hl⟩;show(0,(⟨R,W,bif(R.getD ((ra:Int)).toNat 0==0)==false then(j:Int)else(k:Int)+1⟩:HM))=_
  grind
end
structure Pg where
  code:List II
  SW:Int
  SZ:Int
  Tw:Int
  Tx:Int
  S9:List Int
  Ta:List Int
  flags:Int
  next:Int
  target:Int
  branch:Int
  taken:Int
  count:Int
  values:Int
def gY(p:Pg)(pl:Pl):List HI:=bif decide (0<=p.flags)then⟨1,11,0,0,15⟩::(kr pl p.flags 7++[⟨5,11,11,eQ pl p.flags 7,0⟩,⟨15,0,15,11,1⟩])else[]
def jW(p:Pg)(pl:Pl):List HI:=bif decide (0<=p.target)then kr pl p.target 7++[⟨2,9,eQ pl p.target 7,0,0⟩]else[]
def Pg.T5(p:Pg):Int:=ji p.SW p.Tw (J p.S9)
def Pg.Um(p:Pg):Int:=ji p.SZ p.Tx (J p.Ta)
def Pg.TR(p:Pg):Bool:= !decide (p.T5<p.SW)
def Pg.TZ(p:Pg):Bool:= !decide (p.Um<p.SZ)
def vz(p:Pg)(e:Int):List HI:=⟨1,15,0,0,0⟩::(qj e 14 2 p.SW p.T5++qj e 13 3 p.SZ p.Um)
end Go.Ink
namespace Go.Ink
open List renaming length→J, replicate→R9
open IntKind renaming wrap→V9
open Go.RowKit
section
variable{C l:List HI}{k:Nat}{R W:Li}{M:HM}
theorem UP.pos{pre:List HI}(h:UP C k l R W M)(hl:l≠[])(hC:C=pre++l):k=J pre:=by
 grind [h.at_,List.length,List.length_drop,List.length_append,List.length_pos_iff]
end
end Go.Ink
namespace Go.Ink
open List renaming length→J, replicate→R9
open IntKind renaming wrap→V9
open Go.RowKit
variable{code:List II}
def Ym(code:List II):Prop:=∀x,x∈code->0<=x.imm/\x.imm<=4294967295
variable{c:List II}{x:II}
theorem Ym.snoc(h:Ym c)(hx:0<=x.imm/\x.imm<=4294967295):Ym (c++[x]):=λy hy=>by
 rcases aJ.1 hy with h1|h1
 .exact h y h1
 grind
variable{n:Int}
def y8(nx:Int)(w:Lw)(i:Int×Int)(n:Nat):Pg:=
 ⟨w.code,w.d.S2,w.r.S2,w.d.high,w.r.high,w.d.l,w.r.l,w.flags,bif i.1==32||i.1==38 then V9 .u32 (nx+jN i.2)else nx,w.target,w.branch,bif i.1==32||i.1==38 then 0 else bif w.branch !=0 then V9 .u32 (nx+jN i.2)else 0,n,J w.code⟩
def Pg.TI(p:Pg):Bool:=
 (!((p.flags != -1&& !sS p.flags (J p.code))||(p.target != -1&& !sS p.target (J p.code))))&&(p.branch==0||((decide (33<=p.branch)&&decide (p.branch<=37))&&p.target== -1))
end Go.Ink
namespace Go.Ink
open List renaming length→J, replicate→R9
open IntKind renaming wrap→V9
open Go.RowKit Go.Proofs.Tryz
variable{l:List (Int×Int)}
section
attribute [local irreducible] Ve bN
structure WR where
 key:Ky
 code:List HI
 count:Int
def wK{β:Type}(l:List WR)(L:List (Ky×β)):List (Ky×β):=L.filter λx=>l.any λt=>t.key==x.1
variable{α:Type}{key:α->Ky}{l:List α}{t:α}
variable{β:Type}
variable{L:List (Ky×β)}
theorem BH{l:List WR}{t:WR}{r:β}(ht:t∈l)(h:(t.key,r)∈L):(t.key,r)∈wK l L:=List.mem_filter.2 ⟨h,List.any_eq_true.2 ⟨t,ht,by simp⟩⟩
end
end Go.Ink
namespace Go.Ink
open List renaming length→J, replicate→R9
open IntKind renaming wrap→V9
open Go.RowKit Go.Proofs.Tryz
variable{α:Type}{x:α}
structure BA where
 b:WR
 A:Option Addr
 c:Nat
abbrev BA.key(x:BA):Ky:=x.b.key
structure Wn where
 ml:Nat
 Ac:Option Addr
 cc:Nat
 fl:Int
 LK:List (Ky×LS)
 Z:List BA
def BaSm(Z:List BA):Prop:=J Z<=1000000/\∀x,x∈Z->J x.b.code<=100000/\lD x.b.key
end Go.Ink
namespace Go.Ink
open List renaming length→J
open IntKind renaming wrap→V9
open Go.RowKit Go.Proofs.Tryz
section
attribute [local irreducible] Ve bN
abbrev jZ(p:Pg)(Q:Xu):List Value:=[.slice Q.Ac (J p.code) Q.cc,.i p.SW,.i p.SZ,.i p.Tw,.i p.Tx,.slice Q.Ad (J p.S9) Q.cd,.slice Q.Ar (J p.Ta) Q.cr,.i p.flags,.w p.next,.i p.target,.i p.branch,.w p.taken,.i p.count,.i p.values]
abbrev XP(p:Pg)(Q:Xu):Value:= .agg (jZ p Q).toArray
structure Wj where
 b:Nat
 p:Pg
 Q:Xu
 pl:Pl
 Ag:Option Addr
 cg:Nat
 As:Option Addr
 cs:Nat
abbrev rR(S:Wj)(n m:Nat)(X:VX):List Value:=[.slice S.Q.Ac (J S.p.code) S.Q.cc,.i S.p.SW,.i S.p.SZ,.i S.p.Tw,.i S.p.Tx,.slice S.Q.Ad (J S.p.S9) S.Q.cd,.slice S.Q.Ar (J S.p.Ta) S.Q.cr,.i S.p.flags,.w S.p.next,.i S.p.target,.i S.p.branch,.w S.p.taken,.i S.p.count,.i S.p.values,
 .slice S.Ag (J S.pl.reg) S.cg,.slice S.As (J S.pl.slot) S.cs,.i S.pl.Tt,.slice X.Al n X.cl,.slice X.Af m X.cf]
end
end Go.Ink
namespace Go.Ink
open List renaming length→J, replicate→R9
open IntKind renaming wrap→V9
open Go.RowKit Go.Proofs.Tryz
section
attribute [local irreducible] Ve bN
theorem xR(p:Pg)(pl:Pl):J (gY p pl)<=4:=by
 grind [kq,gY]
theorem uE(p:Pg)(pl:Pl):J (jW p pl)<=2:=by
 grind [kq,jW]
variable{α:Type}{x:α}
structure tJ(p:Pg):Prop where
 Tv:p.values=J p.code
 Tq:J p.code<=64
 S9:J p.S9<=100
 Ta:J p.Ta<=100
 imm:∀x,x∈p.code->0<=x.imm/\x.imm<=4294967295
end
end Go.Ink
namespace Go.Ink
open List renaming length→J
open IntKind renaming wrap→V9
open Go.RowKit Go.Proofs.Tryz
section
attribute [local irreducible] Ve bN
variable{n:Nat}
theorem KJ{k:Int}{code:List II}{s:Sd}(h1:J code<=n)(h2:J s.l<=n)(h3:0<=s.S2/\s.S2<=n):(fO k code s).2.1.length<=n+1/\(fO k code s).2.2.l.length<=n+1/\(0<=(fO k code s).2.2.S2/\(fO k code s).2.2.S2<=(n+1:Nat)):=by
 grind [fO]
end
end Go.Ink
