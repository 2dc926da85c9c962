/- Lemmas. -/
import Derived.Test.YtgpahfcaecojgaaGreatDoorPad
import Derived.Test.YtgpahfcaecojgaaGreatDoorProg
import Derived.Test.YtgpahfcaecojgaaGreatDoorRows
set_option linter.all false
set_option maxRecDepth 100000
set_option maxHeartbeats 4000000
namespace Go.Ink
open Go.RowKit Go.Proofs.Tryz
structure St where
 pc:Int
 d:List Int
 r:List Int
 flags:Int
 Wf:Bool
 Wn:Bool
 ie:Bool
 root:Int
 vec:Int
 epc:Int
 Wg:Int
 addr:Int
 Wu:Bool
 eie:Bool
 count:Int
 halted:Bool
abbrev St.cells(s:St)(dv rv:Value):List Value:=
 [.w s.pc,dv,rv,.w s.flags,.bool s.Wf,.bool s.Wn,.bool s.ie,.w s.root,.w s.vec,.w s.epc,.w s.Wg,.w s.addr,.bool s.Wu,.bool s.eie,.int .u64 s.count,.bool s.halted]
def b2i(b:Bool):Int:=bif b then 1 else 0
def dF(n lo hi:Int):Int:=lo+n%(hi - lo+1)
def St.zero:St:=⟨0,[],[],0,false,false,false,0,0,0,0,0,false,false,0,false⟩
def St.new:St:={St.zero with Wf:=true}
def St.Wv(s:St)(Wg addr:Int):St:=
 {s with epc:=s.pc,Wg:=IntKind.u32.wrap Wg,addr:=addr,Wu:=s.Wf,eie:=s.ie,Wf:=true,ie:=false,pc:=s.vec}
def St.back(s:St):St:={s with pc:=s.epc,Wf:=s.Wu,ie:=s.eie}
def St.get(s:St)(reg:Int):Int×Bool:=
 bif reg==0 then(b2i s.ie,true)else bif reg==1 then(b2i s.Wn,true)else bif reg==2 then(s.root,true)else bif reg==3 then(s.vec,true)else bif reg==4 then(s.epc,true)else
 bif reg==5 then(s.Wg,true)else bif reg==6 then(s.addr,true)else bif reg==7 then(b2i s.Wu,true)else bif reg==8 then(b2i s.eie,true)else bif reg==9 then(IntKind.u32.wrap s.count,true)else
 bif reg==10 then(s.flags,true)else(0,false)
def St.set(s:St)(reg v:Int):St×Bool:=
 bif reg==0 then({s with ie:=v !=0},true)else bif reg==1 then({s with Wn:=v !=0},true)else bif reg==2 then({s with root:=bits .andNot .u32 v 63},true)else bif reg==3 then({s with vec:=v},true)else
 bif reg==4 then({s with epc:=v},true)else bif reg==5 then({s with Wg:=v},true)else bif reg==6 then({s with addr:=v},true)else bif reg==7 then({s with Wu:=v !=0},true)else bif reg==8 then({s with eie:=v !=0},true)else
 bif reg==10 then({s with flags:=bits .and .u32 v 15},true)else(s,false)
def St.same(a b:St):Bool:=
 (((a.d==b.d)&&(a.r==b.r))&&((((((((a.pc==b.pc)&&(a.flags==b.flags))&&(a.Wf==b.Wf))&&(a.Wn==b.Wn))&&(a.ie==b.ie))&&(a.root==b.root))&&(a.vec==b.vec)))&&(((((a.epc==b.epc)&&(a.Wg==b.Wg))&&(a.addr==b.addr))&&(a.Wu==b.Wu))&&(a.eie==b.eie)))&&(a.count==b.count)&&(a.halted==b.halted)
def St.right(s:St):Bool:=decide ((s.d.length:Int)<=16)&&decide ((s.r.length:Int)<=16)&&decide (s.flags<=15)
def u32(x:Int):Prop:=0<=x/\x<=4294967295
def u8s(l:Li):Prop:=∀x,x∈l->0<=x/\x<=255
structure St.wf(s:St):Prop where
 pc:u32 s.pc
 flags:u32 s.flags
 root:u32 s.root
 vec:u32 s.vec
 epc:u32 s.epc
 Wg:u32 s.Wg
 addr:u32 s.addr
 count:0<=s.count/\s.count<=18446744073709551615
 d:∀x,x∈s.d->u32 x
 r:∀x,x∈s.r->u32 x
section
attribute [local irreducible] OpY bN
theorem NF(b:Bool)(w:World):CW prog 276 [.bool b] w (.w (b2i b)):=by
 refine Zfs func276 ntmps276 ?_;refine xL ?_ ?_<;>intro hc1
 .subst hc1;exact Ez
 subst hc1;refine Z_8 ?_;exact ru
theorem eU(n lo hi:Int)(w:World)(h0:0<=lo)(h1:lo<=hi)(h2:hi<=1000000000000):CW prog 17 [.i n,.i lo,.i hi] w (.i (dF n lo hi)):=by
 obtain⟨m,hm⟩:∃m,m=hi - lo+1:=⟨_,rfl⟩;obtain⟨t,ht⟩:∃t,t=n.tmod m:=⟨_,rfl⟩;have e1:t<m:=by rw[ht];exact Int.tmod_lt_of_pos _ Wq1
 have e2: - m<t:=by
  have:=Int.tmod_lt_of_pos (-n) (b:=m) Wq1;rw[Int.neg_tmod]at this;omega
 have e3:t%m=n%m:=by
  rw[ht,Int.tmod_eq_emod];split
  .simp
  rw[Int.natAbs_of_nonneg Wq1];simp
 rw[hm]at ht e1 e2;refine Zfs func17 ntmps17 ?_;refine fH ?_;refine pd ?_;refine rh ?_;refine Zy (jm (Zv rfl) (Zv rfl) Wq1 (show _=t from by rw[ht])) ?_;refine mZ ?_ ?_<;>intro hc2
 .refine Z_3 ?_;refine rh ?_;refine ZA ?_;refine pd ?_;refine rh ?_;refine Z_7 ?_;refine rh ?_;refine Z_4 ?_;refine Zra ?_;simp only[ac]at hc2;refine⟨congrArg _ ?_,rfl⟩;unfold dF;rw[<-hm,<-e3];have e4:(t+m)%m=t%m:=by simp
  rw[<-e4,Int.emod_eq_of_lt Wq1 Wq1];omega
 refine Z_6 ?_;refine rh ?_;refine Z_4 ?_;refine Zra ?_;simp only[aa]at hc2;refine⟨congrArg _ ?_,rfl⟩;unfold dF;rw[<-hm,<-e3,Int.emod_eq_of_lt Wq1 Wq1]
theorem I8(A:Oa)(n c:Nat)(xs:Li)(w:World)(h:Rd w .u32 A n c xs)(hn:n*4<=140737488355328):Ctr prog 127 [.slice A n c] w [] (λv cs=>∃A' c',v= .slice A' n c'/\cs=[sl .u32 49 A' n c' xs]):=by
 refine Zfs func127 ntmps127 ?_;refine fb ?_;refine ZW ?_ ?_<;>intro hc1
 .obtain rfl:A=none:=by simpa using hc1
  obtain⟨rfl,rfl⟩:=h.nil rfl;obtain rfl:xs=[]:=by have:=h.len;simpa[ints]using this
  refine Z_2 ?_;refine cY 49 1 (Z_5 ?_);exact Qg
 refine Z_4 ?_;refine jD ?_;rintro _ _ ⟨b5,rfl,rfl⟩;refine ZA ?_;refine fo (bV (e:=49) (sz:=1) (bytes:=4) rfl rfl Za rfl rfl (λw hi=>h.Wh hi) cN Wq9 Wq1) rfl ?_;rintro _ _ ⟨A',c',rfl,rfl⟩;simp only[Nat.zero_add,aR];refine Z_4 ?_;exact Qg
structure rj(w:World)(s:St)(Ad Ar:Oa)(cd cr:Nat):Prop where
 d:Rd w .u32 Ad s.d.length cd s.d
 r:Rd w .u32 Ar s.r.length cr s.r
 hd:s.d.length*4<=140737488355328
 hr:s.r.length*4<=140737488355328
theorem rj.Wh{w0 w:World}{cs:List bJ}{s:St}{Ad Ar:Oa}{cd cr:Nat}(h:rj w0 s Ad Ar cd cr)(hi:Inv w0 [] cs w):rj w s Ad Ar cd cr:=⟨h.d.Wh hi,h.r.Wh hi,h.hd,h.hr⟩
abbrev sv(s:St)(Ad:Oa)(cd:Nat)(Ar:Oa)(cr:Nat):Value:= .agg (s.cells (.slice Ad s.d.length cd) (.slice Ar s.r.length cr)).toArray
abbrev slD(s:St)(A:Oa)(c:Nat):bJ:=sl .u32 49 A s.d.length c s.d
abbrev slR(s:St)(A:Oa)(c:Nat):bJ:=sl .u32 49 A s.r.length c s.r
def Vg(s:St)(v:Value)(cs:List bJ):Prop:=∃Ad cd Ar cr,v=sv s Ad cd Ar cr/\cs=[slD s Ad cd,slR s Ar cr]
theorem _root_.Go.Ink.Inv.XJ{w0 w:World}{S:List Nat}{cs:List bJ}{s:St}{Ad Ar:Oa}{cd cr:Nat}(hi:Inv w0 S cs w)(h1:Has cs (slD s Ad cd))(h2:Has cs (slR s Ar cr))(hd:s.d.length*4<=140737488355328)(hr:s.r.length*4<=140737488355328):rj w s Ad Ar cd cr:=
 ⟨hi.rd h1,hi.rd h2,hd,hr⟩
theorem mM(s:St)(Ad Ar:Oa)(cd cr:Nat)(w:World)(h:rj w s Ad Ar cd cr):Ctr prog 100 [sv s Ad cd Ar cr] w [] (Vg s):=by
 refine Zfs func100 ntmps100 ?_;refine Z_2 ?_;refine ZO λb1=>?_;refine ZN λb2=>?_
 refine Z_3 ?_;refine bU (Zdn [7,9]) Zk (ui ?_);refine ZFe 3 2 ?_;refine ZG 4 ?_;refine cW 2 Zk (ZTn (λw hi=>I8 Ad _ cd s.d w (h.d.Wh hi) h.hd) ?_);rintro _ _ ⟨A1,c1,rfl,rfl⟩;refine ZFe 6 1 ?_;refine kQ ?_;refine ZTn (λw hi=>I8 Ar _ cr s.r w (h.r.Wh hi) h.hr) ?_;rintro _ _ ⟨A2,c2,rfl,rfl⟩;refine ic ?_;refine ZQ ?_;refine ZFe 8 2 ?_;refine kR ?_;refine o9 ?_;refine Z_4 ?_;exact Wq228
theorem vf(s:St)(Ad Ar:Oa)(cd cr:Nat)(Wg addr:Int)(w:World)(h:rj w s Ad Ar cd cr):Ctr prog 165 [sv s Ad cd Ar cr,.i Wg,.w addr] w [] (Vg (s.Wv Wg addr)):=by
 refine Zfs func165 ntmps165 ?_;refine Z_2 ?_;refine ZO λb3=>?_;refine ZN λb6=>?_
 refine Z_5 ?_;refine ZSn (λw hi=>mM s Ad Ar cd cr w (h.Wh hi)) ?_;rintro _ _ ⟨A1,c1,A2,c2,rfl,rfl⟩;refine rf ?_;refine oq ?_;refine Z_6 ?_;refine ZL ?_;refine iJ ?_;refine iJ ?_;refine iJ ?_;refine iJ ?_;refine Z_7 ?_;refine ZL ?_;refine iJ ?_;refine iJ ?_;refine Z_5 ?_;exact Wq228
theorem M8(s:St)(Ad Ar:Oa)(cd cr:Nat)(w:World)(h:rj w s Ad Ar cd cr):Ctr prog 242 [sv s Ad cd Ar cr] w [] (Vg s.back):=by
 refine Zfs func242 ntmps242 ?_;refine Z_2 ?_;refine ZO λb1=>?_;refine ZN λb2=>?_
 refine Z_5 ?_;refine ZSn (λw hi=>mM s Ad Ar cd cr w (h.Wh hi)) ?_;rintro _ _ ⟨A1,c1,A2,c2,rfl,rfl⟩;refine ZM ?_;refine gq ?_;refine ZL ?_;refine iJ ?_;refine iJ ?_;refine Z_5 ?_;exact Wq228
theorem XB(w:World):CW prog 81 [] w (sv St.new none 0 none 0):=by
 refine Zfs func81 ntmps81 ?_;refine Z_2 ?_;refine ZN λb0=>?_;refine Z_5 ?_;refine iC ?_;exact yr
theorem VN(s:St)(dv rv:Value)(reg:Int)(w:World):CW prog 229 [.agg (s.cells dv rv).toArray,.i reg] w (.tuple #[.w (s.get reg).1,.bool (s.get reg).2]):=by
 refine Zfs func229 ntmps229 ?_;refine Z_2 ?_;refine ZO λb2=>?_;refine ue ?_;refine ZW ?_ ?_<;>intro hc2
 .refine UJ ?_;refine⟨?_,rfl⟩;exact uk
 refine Zw6 ?_ ?_<;>intro hc4
 .refine UJ ?_;refine⟨?_,rfl⟩;exact uk
 refine Zw6 ?_ ?_<;>intro hc6
 .refine gq ?_;refine mf ?_;refine⟨?_,rfl⟩;exact uk
 refine Zw6 ?_ ?_<;>intro hc8
 .refine gq ?_;refine mf ?_;refine⟨?_,rfl⟩;exact uk
 refine Zw6 ?_ ?_<;>intro hc10
 .refine gq ?_;refine mf ?_;refine⟨?_,rfl⟩;exact uk
 refine Zw6 ?_ ?_<;>intro hc12
 .refine gq ?_;refine mf ?_;refine⟨?_,rfl⟩;exact uk
 refine Zw6 ?_ ?_<;>intro hc14
 .refine gq ?_;refine mf ?_;refine⟨?_,rfl⟩;exact uk
 refine Zw6 ?_ ?_<;>intro hc16
 .refine UJ ?_;refine⟨?_,rfl⟩;exact uk
 refine Zw6 ?_ ?_<;>intro hc18
 .refine UJ ?_;refine⟨?_,rfl⟩;exact uk
 refine Zw6 ?_ ?_<;>intro hc20
 .refine Z_4 ?_;refine oq ?_;refine Z_7 ?_;refine mf ?_;refine⟨?_,rfl⟩;exact uk
 refine Zw6 ?_ ?_<;>intro hc22
 .refine gq ?_;refine mf ?_;refine⟨?_,rfl⟩;exact uk
 refine fH ?_;refine mf ?_;refine⟨?_,rfl⟩;exact uk
theorem Vu(s:St)(Ad Ar:Oa)(cd cr:Nat)(reg v:Int)(w:World)(h:rj w s Ad Ar cd cr):Ctr prog 230 [sv s Ad cd Ar cr,.i reg,.w v] w []
  (λx cs=>∃Ad' cd' Ar' cr',x= .tuple #[sv (s.set reg v).1 Ad' cd' Ar' cr',.bool (s.set reg v).2]/\cs=[slD s Ad' cd',slR s Ar' cr']):=by
 refine Zfs func230 ntmps230 ?_;refine Z_2 ?_;refine ZO λb3=>?_;refine ZN λb6=>?_
 refine Z_6 ?_;refine ZSn (λw hi=>mM s Ad Ar cd cr w (h.Wh hi)) ?_;rintro _ _ ⟨A1,c1,A2,c2,rfl,rfl⟩;refine ZM ?_;refine oU ?_;refine ZW ?_ ?_<;>intro hc4
 .refine Z_4 ?_;refine QP ?_;refine⟨A1,c1,A2,c2,?_,rfl⟩;clear h;exact xD
 refine Zw6 ?_ ?_<;>intro hc6
 .refine Z_4 ?_;refine QP ?_;refine⟨A1,c1,A2,c2,?_,rfl⟩;clear h;exact xD
 refine Zw6 ?_ ?_<;>intro hc8
 .refine Z_2 ?_;refine Zy (zR Zv0 Zv0 rfl) ?_;refine Z_1 ?_;refine QP ?_;refine⟨A1,c1,A2,c2,?_,rfl⟩;clear h;exact xD
 refine Zw6 ?_ ?_<;>intro hc10
 .refine Z_3 ?_;refine QP ?_;refine⟨A1,c1,A2,c2,?_,rfl⟩;clear h;exact xD
 refine Zw6 ?_ ?_<;>intro hc12
 .refine Z_3 ?_;refine QP ?_;refine⟨A1,c1,A2,c2,?_,rfl⟩;clear h;exact xD
 refine Zw6 ?_ ?_<;>intro hc14
 .refine Z_3 ?_;refine QP ?_;refine⟨A1,c1,A2,c2,?_,rfl⟩;clear h;exact xD
 refine Zw6 ?_ ?_<;>intro hc16
 .refine Z_3 ?_;refine QP ?_;refine⟨A1,c1,A2,c2,?_,rfl⟩;clear h;exact xD
 refine Zw6 ?_ ?_<;>intro hc18
 .refine Z_4 ?_;refine QP ?_;refine⟨A1,c1,A2,c2,?_,rfl⟩;clear h;exact xD
 refine Zw6 ?_ ?_<;>intro hc20
 .refine Z_4 ?_;refine QP ?_;refine⟨A1,c1,A2,c2,?_,rfl⟩;clear h;exact xD
 refine Zw6 ?_ ?_<;>intro hc22
 .refine Z_4 ?_;refine QP ?_;refine⟨A1,c1,A2,c2,?_,rfl⟩;clear h;exact xD
 refine Z_3 ?_;refine jj ?_;refine px (cs':=[slv _ _ _ _ _ _,slv _ _ _ _ _ _]) (.inl rfl) Zu rfl rfl rfl Zh Zrf Zrf ⟨A1,c1,A2,c2,?_,rfl⟩;clear h;exact xD
theorem oF(s:St)(Ad Ar:Oa)(cd cr:Nat)(w:World):CW prog 124 [sv s Ad cd Ar cr] w (.bool s.right):=by
 refine Zfs func124 ntmps124 ?_;refine Z_2 ?_;refine ZO λb1=>?_;refine om ?_;exact o7
theorem Hm(A A2:Oa)(c c2:Nat)(xs ys:Li)(w:World)(h:Rd w .u32 A xs.length c xs)(h2:Rd w .u32 A2 ys.length c2 ys):
  CW prog 101 [.slice A xs.length c,.slice A2 ys.length c2] w (.bool (xs==ys)):=by
 have hm:=h.max;have hc:=h.cap;unfold maxLen at hm;refine Zfs func101 ntmps101 ?_;refine oU ?_;refine ZW ?_ ?_<;>intro hc1
 .have hne:(xs==ys)=false:=by rw[aV];rintro rfl;simp at hc1
  refine sE ?_
  grind
 have hlen:xs.length=ys.length:=by(have:(xs.length:Int)=ys.length:=by simpa using hc1);omega
 refine Z_9 ?_;refine wLo (λk:Nat=>[(5,.i (k:Int)),(0,.slice A xs.length c),(1,.slice A2 ys.length c2)]) (λ_=>[]) (λk=>k<=xs.length/\xs.take k=ys.take k) (λk=>xs.length - k) (0) bY ?_;rintro k ⟨hk,he⟩;refine Zw9 ?_ ?_<;>intro hc4
 .simp only[ac]at hc4;obtain⟨ad,rfl⟩:=h.some_ Wq1;obtain⟨ad2,rfl⟩:=h2.some_ Wq1;refine Z_5 ?_;refine uf ?_;refine Zy4 2 rfl (cC rfl Zrf (Zv rfl) (Zv rfl) Zrf Wq2) ?_;refine Wq197 ?_;refine ZE 8 ?_;refine ug ?_;refine ZW ?_ ?_<;>intro hc6
  .have hne:(xs==ys)=false:=by rw[aV];rintro rfl;simp at hc6
   refine oo ?_;exact⟨by rw[hne],rfl⟩
  have heq:xs[k]'(by omega)=ys[k]'(by omega):=by simpa using hc6
  refine lI ?_;refine qMM (k+1) ⟨⟨by omega,?_⟩,by omega⟩;rw[List.take_succ_eq_append_getElem Wq1,List.take_succ_eq_append_getElem Wq1,he,heq]
 simp only[aa]at hc4;refine oo ?_;refine⟨?_,rfl⟩;have hkk:k=xs.length:=by omega
 subst hkk;rw[bC]at he;rw[he,hlen,bC];simp
def St.rsame(a b:St):Bool:=
 (((((((((((((((a.pc==b.pc)&&(a.d==b.d))&&(a.r==b.r))&&(a.flags==b.flags))&&(a.Wf==b.Wf))&&(a.Wn==b.Wn))&&(a.ie==b.ie))&&(a.root==b.root))&&(a.vec==b.vec))&&(a.epc==b.epc))&&(a.Wg==b.Wg))&&(a.addr==b.addr))&&(a.Wu==b.Wu))&&(a.eie==b.eie))&&(a.count==b.count))&&(a.halted==b.halted)
theorem St.Xy(a b:St):a.rsame b=true<->a=b:=by
 unfold St.rsame;constructor
 .intro h;simp only[au,beq_iff_eq]at h;obtain⟨⟨⟨⟨⟨⟨⟨⟨⟨⟨⟨⟨⟨⟨⟨h1,h2⟩,h3⟩,h4⟩,h5⟩,h6⟩,h7⟩,h8⟩,h9⟩,h10⟩,h11⟩,h12⟩,h13⟩,h14⟩,h15⟩,h16⟩:=h;cases a;simp_all
 grind
set_option maxRecDepth 100000 in
theorem RN(s t:St)(Ad Ar Bd Br:Oa)(cd cr ed er:Nat)(w:World)(h:rj w s Ad Ar cd cr)(h2:rj w t Bd Br ed er):
  CW prog 71 [sv s Ad cd Ar cr,sv t Bd ed Br er] w (.bool (s.rsame t)):=by
 refine Zfs func71 ntmps71 ?_;refine Z_2 ?_;refine ZO λb2=>?_;refine ZO λb3=>?_
 refine oU ?_;refine dE (bS rfl rfl) (.cons (cA rfl) (.cons (cA rfl) .nil)) (λ_ _=>rfl) (λhg w hi=>Hm Ad Bd cd ed s.d t.d w (h.d.Wh hi) (h2.d.Wh hi)) rfl (Z_6 ?_);refine dE (bS rfl rfl) (.cons (cA rfl) (.cons (cA rfl) .nil)) (λ_ _=>rfl) (λhg w hi=>Hm Ar Br cr er s.r t.r w (h.r.Wh hi) (h2.r.Wh hi)) rfl (EC ?_);refine EC ?_;refine rc ?_;exact ru
theorem fU(n lo hi:Int)(h:lo<=hi):lo<=dF n lo hi/\dF n lo hi<=hi:=by
 unfold dF;have h1:=Int.emod_nonneg n (show hi - lo+1≠0 by omega);have h2:=Int.emod_lt_of_pos n (show 0<hi - lo+1 by omega);omega
def St.WJ(s:St):List Int:=[b2i s.ie,b2i s.Wn,s.root,s.vec,s.epc,s.Wg,s.addr,b2i s.Wu,b2i s.eie,IntKind.u32.wrap s.count,s.flags]
theorem QL:ownKnob prog.godebug=none:=by kernel_rfl
theorem wm:laidOutB prog=true:=by kernel_rfl
theorem Vo{n:Int}(h:(Lit.int .u32 n).wf=true):u32 n:=by
 simp only[Lit.wf,au,ac]at h;have h1:IntKind.u32.min=0:=rfl;have h2:IntKind.u32.max=4294967295:=rfl;rw[h1,h2]at h;exact h
theorem wf_i64{n:Int}(h:(Lit.int .i64 n).wf=true): -9223372036854775808<=n/\n<=9223372036854775807:=by
 simp only[Lit.wf,au,ac]at h;have h1:IntKind.i64.min= -9223372036854775808:=rfl
 simp_all
theorem QN{W:World}{t:TypeId}{k:IntKind}{c:Value}(ht:prog.underlying t=some (.int k))(h:Arg prog W t [c]):∃n,c= .int k n/\(Lit.int k n).wf=true:=by
 obtain⟨n,h1,h2⟩:=h.int ht
 grind
theorem arg1b{W:World}{t:TypeId}{c:Value}(ht:prog.underlying t=some .bool)(h:Arg prog W t [c]):∃n,c= .bool n:=by
 obtain⟨n,h1⟩:=h.bool ht
 grind
theorem jk{f:FuncId}{args:List Value}{w:World}(h:Ctr prog f args w [] (λv cs=>v= .bool true/\cs=[])):Calls prog f args.toArray w λe w'=>e= .returned (.bool true)/\Below w.heap.size w w':=
 Calls.mono h λ_ _ ⟨_,_,he,⟨h1,h2⟩,hi⟩=>⟨by rw[he,h1],hi.WB.below⟩
section
open Go.MapKept
open Go.ChangeMaps (setBlock)
theorem SL{α:Type}(cur vs:List α)(o m:Nat)(h:o+vs.length<=m)(hm:m<=cur.length):(cur.take o++vs++cur.drop (o+vs.length)).take m=(cur.take m).take o++vs++(cur.take m).drop (o+vs.length):=by
 rw[List.take_append,aM bY,List.take_take,Nat.min_eq_left Wq1,List.drop_take,aj,aD,Nat.min_eq_left Wq1]
theorem zP(z:List Value)(k:Nat)(hz:0<z.length):∀u,u∈(Builtin.zeroCells z.toArray k).toList->u∈z:=by grind [Builtin.zeroCells,Array.toList_map,Nat.mod_lt,List.getElem?_eq_getElem]
theorem zQ(z:List Value)(k:Nat):(Builtin.zeroCells z.toArray k).toList.length=k*z.length:=by simp[Builtin.zeroCells]
section
variable {C:Cx} {fr:Fr} {cs:List bJ} {d:Option Nat} {T T' k e:TypeId} {x y z:Operand} {ty:TypeId} {pos:String} {af:Array Edge} {gd:Option (Nat×Bool)} {g:Bool} {v:Value} {mk:bJ->List bJ}
variable{xs:List Value}
theorem vm{bb o n c sz:Nat}{vs:List Value}(hT:∀w,(sizeOf T).run C.P w= .ok sz w)(hx:ev fr x=some (.pointer (some ⟨bb,o,none⟩)))(hy:ev fr y=some (.agg vs.toArray))(h1:∀u∈vs,u.oneCell'=true)(hu:At cs (slv e sz (sA bb) n c xs) mk)(hn:vs.length=sz)(ho:o+sz<=n*sz):
  OpT C ⟨d,.store T x y,ty,pos,af,gd⟩ fr cs true (λu cs'=>u=undef/\cs'=mk (slv e sz (sA bb) n c (xs.take o++vs++xs.drop (o+sz)))):=λa w hf hi next Q h=>by
 have hown:w.ownsRow 0 e sz (.slice (sA bb) n c) n xs:=hi.get hu.has;obtain⟨hl0,h2⟩:=hown;rcases h2 with⟨hv,_⟩|⟨g',cap,cur,hv,hg0,hh,hnc,hcm,hcs,htk⟩
 .cases hv
 simp only[Value.slice.injEq,bo,Addr.mk.injEq,and_true,true_and]at hv;obtain⟨rfl,rfl⟩:=hv;have hle:n*sz<=c*sz:=Nat.mul_le_mul_right _ hnc;have hcl:cur.toList.length=c*sz:=by simpa using hcs
 have hst:=run_storeCells_at C.P bb o e vs 0 cur w hh Wq1 h1;simp only[Nat.add_zero]at hst;have hk:dc [bb] w (w.setRow bb (cur.toList.take o++vs++cur.toList.drop (o+vs.length)).toArray):=⟨rfl,rfl,rfl,by simp_all,λj _ hj=>by
  grind [World.setRow]⟩
 have hr:(execOp a.eval ⟨d,.store T x y,ty,pos,af,gd⟩).run C.P w= .ok .skip (w.setRow bb (cur.toList.take o++vs++cur.toList.drop (o+vs.length)).toArray):=by
  simp[execOp,hf.ev hx,hf.ev hy,Instr.storeAt,Instr.sureAddr,storeVar,hT,Value.cells,hst,hn]
 have hown2:(w.setRow bb (cur.toList.take o++vs++cur.toList.drop (o+vs.length)).toArray).ownsRow 0 e sz (.slice (sA bb) n c) n (xs.take o++vs++xs.drop (o+sz)):=by
  refine⟨?_,.inr ⟨bb,c,(cur.toList.take o++vs++cur.toList.drop (o+vs.length)).toArray,rfl,hg0,?_,hnc,hcm,?_,?_⟩⟩
  .grind
  .exact xt
  .grind
  grind [SL]
 unfold Oper.wp;rw[hr];refine h _ _ _ ⟨rfl,rfl⟩ (hi.upd (hu _) yp (jO yp hown2 λa ha=>?_)) (λe=>by cases e)
 grind [bJ.bs,ab]
theorem CD{bb o k cc n c sz:Nat}{zs:List Value}{z:Value}(hx:ev fr x=some (.slice (some ⟨bb,o,none⟩) k cc))(hu:At cs (slv e sz (sA bb) n c xs) mk)(ht:C.P.underlying T=some (.slice e))(hz:∀w,(zeroValue e).run C.P w= .ok z w)(hz1:z.cells=zs.toArray)(hzl:zs.length=sz)(hs0:0<sz)(hz2:∀u∈zs,u.oneCell'=true)(hno:n*sz<=o)(hoc:o+k*sz<=c*sz):
  OpT C ⟨d,.call {callee:= .builtin .clear,args:= #[x],argTypes:= #[T]},ty,pos,af,gd⟩ fr cs true (λv cs'=>v= .tuple #[]/\cs'=mk (slv e sz (sA bb) n c xs)):=λa w hf hi next Q h=>by
 have hown:w.ownsRow 0 e sz (.slice (sA bb) n c) n xs:=hi.get hu.has;obtain⟨hl0,h2⟩:=hown;rcases h2 with⟨hv,_⟩|⟨g',cap,cur,hv,hg0,hh,hnc,hcm,hcs,htk⟩
 .cases hv
 simp only[Value.slice.injEq,bo,Addr.mk.injEq,and_true,true_and]at hv;obtain⟨rfl,rfl⟩:=hv;have hcl:cur.toList.length=c*sz:=by simpa using hcs
 obtain⟨ZC,hZC⟩:=Zgn ((Builtin.zeroCells zs.toArray k).toList);have hZl:ZC.length=k*sz:=by rw[<-hZC,zQ,hzl]
 have hst:=run_storeCells_at C.P bb o e ZC 0 cur w hh Wq1 (λu hu=>hz2 u (zP zs k Wq1 u bY));simp only[Nat.add_zero]at hst;have key:∃w',(Builtin.clear_ #[T] ty #[.slice (some ⟨bb,o,none⟩) k cc]).run C.P w= .ok (.tuple #[]) w'/\dc [bb] w w'/\w'.ownsRow 0 e sz (.slice (sA bb) n c) n xs:=by
  cases k with
  |zero=>
   refine⟨w,by simp[Builtin.clear_,run_underlying ht],dc.refl _ _,⟨hl0,.inr ⟨bb,c,cur,rfl,hg0,hh,hnc,hcm,hcs,htk⟩⟩⟩
  |succ k=>
   refine⟨w.setRow bb (cur.toList.take o++ZC++cur.toList.drop (o+ZC.length)).toArray,?_,⟨rfl,rfl,rfl,by simp_all,λj _ hj=>?_⟩,⟨hl0,.inr ⟨bb,c,(cur.toList.take o++ZC++cur.toList.drop (o+ZC.length)).toArray,rfl,hg0,?_,hnc,hcm,?_,?_⟩⟩⟩
   .simp_all [Builtin.clear_,Sem.run_bind,Result.andThen,run_underlying]
   .exact xt
   .exact xt
   .grind
   grind
 obtain⟨w',j0,hk,ho⟩:=key;have hr':(execOp a.eval ⟨d,.call {callee:= .builtin .clear,args:= #[x],argTypes:= #[T]},ty,pos,af,gd⟩).run C.P w= .ok (.value (.tuple #[])) w':=by
  simp[execOp,resolve,invoke,builtin,hf.ev hx,j0]
 unfold Oper.wp;rw[hr'];refine h _ _ _ ⟨rfl,rfl⟩ (hi.upd (hu _) yp (jO yp ho λa ha=>?_)) (λe=>by cases e)
 grind [bJ.bs,ab]
end
theorem Ha{e sz n c i:Nat}{A:Oa}{xs:List Value}(hi:i<=n)(w:World)(h:(slv e sz A n c xs).ok w):(slv e sz A i c (xs.take (i*sz))).ok w:=by
 obtain⟨h1,h2⟩:=h;have hle:i*sz<=n*sz:=Nat.mul_le_mul_right _ hi;refine⟨by grind,?_⟩
 grind
section
variable {C:Cx} {Q:lF} {fr:Fr} {cs:List bJ} {c:bJ} {cin cin' rest r1:List bJ}
variable{w0 w:World}{S:List Nat}
theorem Inv.Xm(h:Inv w0 S (bP cin::rest) w)(hp:cin.Perm (c::cin')):Inv w0 S (c::bP cin'::rest) w:=by
 obtain⟨_,_,h1⟩:=h.Xj;have h2:Inv w0 S (cin'++(c::rest)) w:=h1.perm ((hp.append_right rest).trans List.perm_middle.symm);exact(Inv.WT (F:=λ_:Unit=>cin') (hb:=λ_=>rfl) (p:=λ_=>True) () trivial h2).perm (List.Perm.swap ..)
theorem Inv.XF(h:Inv w0 S (c::bP cin::rest) w)(hp:cin'.Perm (c::cin)):Inv w0 S (bP cin'::rest) w:=by
 obtain⟨_,_,h1⟩:=(h.perm (List.Perm.swap ..)).Xj;have h2:Inv w0 S (cin'++rest) w:=h1.perm (List.perm_middle.trans ((hp.append_right rest).symm));exact Inv.WT (F:=λ_:Unit=>cin') (hb:=λ_=>rfl) (p:=λ_=>True) () trivial h2
theorem Inv.XE(h:Inv w0 S (bP cin::rest) w)(hs:cin'.Sublist cin):Inv w0 S (bP cin'::rest) w:=by
 obtain⟨_,_,h1⟩:=h.Xj;exact Inv.WT (F:=λ_:Unit=>cin') (hb:=λ_=>rfl) (p:=λ_=>True) () trivial (h1.drop (hs.append (bh _)))
variable{ops:Array Oper}{l:List Oper}
theorem EY(hd:Del cs (bP cin) rest)(hp:cin.Perm (c::cin'))(h:WL C ops Q l fr (c::bP cin'::rest)):WL C ops Q l fr cs:=λa w hf hi=>h a w hf ((hi.perm hd.perm).Xm hp)
theorem Jz(hd:Del cs (bP cin) r1)(hd2:Del r1 c rest)(hp:cin'.Perm (c::cin))(h:WL C ops Q l fr (bP cin'::rest)):WL C ops Q l fr cs:=λa w hf hi=>h a w hf (((hi.perm (hd.perm.trans (hd2.perm.cons _))).perm (List.Perm.swap ..)).XF hp)
theorem yw(hd:Del cs (bP cin) rest)(hs:cin'.Sublist cin)(h:WL C ops Q l fr (bP cin'::rest)):WL C ops Q l fr cs:=λa w hf hi=>h a w hf ((hi.perm hd.perm).XE hs)
theorem Inv.joinGet(h:Inv w0 S cs w)(hh:Has cs (bP cin))(hc:c∈cin):c.ok w:=ek (h.get hh) c hc
theorem Ctr.join{P:Program}{f:FuncId}{args:List Value}{K:Value->List bJ->Prop}(hi:Inv w (bK [bP cin]) [bP cin] w)(h:Inv w (bK cin) cin w->Ctr P f args w cin K):Ctr P f args w [bP cin] (λv cs=>∃cs0,K v cs0/\cs=[bP cs0]):=by
 have eb:∀c:List bJ,bK [bP c]=bK c:=λc=>by simp[bK,bP,exC,bJ.bs]
 have hi2:Inv w (bK cin) cin w:=by
  obtain⟨_,_,h1⟩:=hi.Xj;rw[aw,eb]at h1;exact h1
 refine Calls.mono (h hi2) λe w' hq=>?_
 obtain⟨v,cout,rfl,hk,hi3⟩:=hq;refine⟨v,[bP cout],rfl,⟨cout,hk,rfl⟩,?_⟩;rw[eb];exact Inv.WT (F:=λ_:Unit=>cout) (hb:=λ_=>rfl) (p:=λ_=>True) () trivial bY
end
def QI(b:Nat)(L:List (Ky×Value))(j:Nat)(st:Nat)(w:World):Prop:=∃es clock,w.heap[b]? =some (.map es clock)/\Stamped es clock/\(es.toList.map λe=>(e.key,e.val))=(L.map λx=>(kyV x.1,x.2))/\(∀x,x∈L->ly x.1)/\∃e,es.toList[j]? =some e/\e.born=st
abbrev meC(b:Nat)(L:List (Ky×Value))(j:Nat)(st:Nat):bJ:= .gen [b] (QI b L j st)
 (λw w' h hk=>by obtain⟨es,cl,h1,h2⟩:=hk;exact⟨es,cl,(h b (by simp)).trans h1,h2⟩)
 (λw hk b' hb=>by obtain⟨es,cl,h1,_⟩:=hk;grind)
def v6(L:List (Ky×Value))(q:Ky)(z:Value):List (Ky×Value):=match cT (·.1) q L with|some _=>L|none=>L++[(q,z)]
def Bg(L:List (Ky×Value))(q:Ky):Nat:=(cT (·.1) q L).getD L.length
section
variable {C:Cx} {fr:Fr} {cs:List bJ} {d:Option Nat} {T k e:TypeId} {x y z:Operand} {ty:TypeId} {pos:String} {af:Array Edge} {gd:Option (Nat×Bool)} {g:Bool} {v zv:Value} {b j st:Nat} {L:List (Ky×Value)} {q:Ky} {mk:bJ->List bJ}
theorem Rk(hx:ev fr x=some (.map (some b)))(hy:ev fr y=some (kyV q))(hq:ly q)(hT:C.P.underlying T=some (.map k e))(hK:sK C.P k)(hz:∀w,(zeroValue e).run C.P w= .ok zv w)(hu:At cs (mpc b L) mk):
  OpT C ⟨d,.mapEntry T x y,ty,pos,af,gd⟩ fr cs true (λu cs'=>∃st:Nat,u= .tuple #[fY L q zv,.i (st:Int)]/\cs'=mk (meC b (v6 L q zv) (Bg L q) st)):=λa w hf hi next Q h=>by
 obtain⟨es,clock,hb,hs,hL,hok⟩:=(show ou b L w from hi.get hu.has);obtain⟨lq,hlq⟩:=hK.at_ q hq;have key:∃w' st,(Instr.mapEntry T (.map (some b)) (kyV q)).run C.P w= .ok (.tuple #[fY L q zv,.i ((st:Nat):Int)]) w'/\dc [b] w w'/\QI b (v6 L q zv) (Bg L q) st w':=by
  rcases sq hK hs hL hok hq w with⟨h1,h2,h3⟩|⟨j,e0,h1,h2,h3,h4,h5⟩
  .refine⟨setBlock w b (.map (es.push ⟨kyV q,zv,clock⟩) (clock+1)),clock,?_,gh hb,_,_,(heap_set hb).1,stamped_push hs h3,?_,?_,?_⟩
   .rw[vO h1];simp[Instr.mapEntry,run_underlying hT,MapKept.run_getObj_map hb,hK.K.check w false hlq,h2,hz,MapKept.run_setObj_map _ hb,Result.andThen,setBlock,goInt]
   .grind [v6]
   .grind [v6]
   have e1:L.length=es.toList.length:=by have:=congrArg List.length hL;simpa using this.symm
   simp_all [kyV,Bg]
  have hj:es[j]? =some e0:=by simpa using h3
  have hkeyf:∀e',es[j]? =some e'->({e' with key:=kyV q}:MapEntry).key=e'.key:=λe' he'=>by grind
  have hset:(es.modify j λe'=>{e' with key:=kyV q}).toList=es.toList.set j {e0 with key:=kyV q}:=by rw[Array.toList_modify,ChangeMaps.modify_eq_set _ _ _ _ h3]
  refine⟨setBlock w b (.map (es.modify j λe'=>{e' with key:=kyV q}) clock),e0.born,?_,gh hb,_,_,(heap_set hb).1,stamped_modify hs _ _ (λ_ _=>rfl) (λe' _ he'=>hkeyf e' he'),?_,?_,?_⟩
  .rw[rR h1 h5];simp[Instr.mapEntry,run_underlying hT,MapKept.run_getObj_map hb,hK.K.check w false hlq,h2,hj,h4,hK.K.stays w hlq,MapKept.run_setObj_map _ hb,Result.andThen,setBlock,goInt]
  .unfold v6;rw[h1,hset,List.map_set,hL];dsimp only;have h6:(L.map λx=>(kyV x.1,x.2))[j]? =some (kyV q,e0.val):=by rw[aX,h5];rfl
   apply List.ext_getElem?
   grind
  .grind [v6]
  grind [kyV,Bg]
 obtain⟨w',st,h1,h2,h3⟩:=key;unfold Oper.wp;have hr:(execOp a.eval ⟨d,.mapEntry T x y,ty,pos,af,gd⟩).run C.P w= .ok (.value (.tuple #[fY L q zv,.i (st:Int)])) w':=by simp[execOp,hf.ev hx,hf.ev hy,h1]
 rw[hr];exact h _ _ _ ⟨st,rfl,rfl⟩ (hi.upd (hu _) h2 (nV h2 (by simp[bJ.bs]) h3 (λb hb=>Or.inl hb))) (λe=>by cases e)
theorem MO{v0:Value}(hj:L[j]? =some (q,v0))(hx:ev fr x=some (.map (some b)))(hy:ev fr y=some (.i (st:Int)))(hz:ev fr z=some v)(hu:At cs (meC b L j st) mk):
  OpT C ⟨d,.entryStore T x y z,ty,pos,af,gd⟩ fr cs true (λu cs'=>u=undef/\cs'=mk (mpc b (L.set j (q,v)))):=λa w hf hi next Q h=>by
 obtain⟨es,clock,hb,hs,hL,hok,e0,he0,rfl⟩:=(show QI b L j st w from hi.get hu.has);have hji:es[j]? =some e0:=by simpa using he0
 have hf0:es.findIdx? (λe=>((e.born:Nat):Int)==(e0.born:Int))=some j:=by
  rw[Array.findIdx?_eq_some_iff_getElem];obtain⟨hjl,hje⟩:=Array.getElem?_eq_some_iff.1 hji;refine⟨hjl,by simp[hje],λi hi=>?_⟩;simp only[Bool.not_eq_true,aV,ne_eq];intro hbe;have hil:i<es.size:=by omega
  have e1:es[i]=e0:=born_inj hs.2.1 cP (ak he0) Wq1;have e2:es.toList[i]? =some e0:=by simp[hil,e1]
  have:=oR hs e2 he0 rfl;omega
 have j0:(Instr.entryStore T (.map (some b)) (.i (e0.born:Int)) v).run C.P w= .ok () (setBlock w b (.map (es.modify j λe=>{e with val:=v}) clock)):=by
  have h0:(asInt (Value.i (e0.born:Int))).run C.P w= .ok (e0.born:Int) w:=rfl;simp[Instr.entryStore,MapKept.run_getObj_map hb,h0,hf0,MapKept.run_setObj_map _ hb,Result.andThen,setBlock]
 have hset:(es.modify j λe=>{e with val:=v}).toList=es.toList.set j {e0 with val:=v}:=by rw[Array.toList_modify,ChangeMaps.modify_eq_set _ _ _ _ he0]
 have hm:ou b (L.set j (q,v)) (setBlock w b (.map (es.modify j λe=>{e with val:=v}) clock)):=by
  refine⟨_,clock,(heap_set hb).1,stamped_modify hs _ _ (λ_ _=>rfl) (λ_ _ _=>rfl),?_,?_⟩
  .grind [es_at,List.map_set]
  grind
 have hr:(execOp a.eval ⟨d,.entryStore T x y z,ty,pos,af,gd⟩).run C.P w= .ok .skip (setBlock w b (.map (es.modify j λe=>{e with val:=v}) clock)):=by simp[execOp,hf.ev hx,hf.ev hy,hf.ev hz,j0]
 unfold Oper.wp;rw[hr];exact h _ _ _ ⟨rfl,rfl⟩ (hi.upd (hu _) (gh hb) (nV (gh hb) (by simp[bJ.bs]) hm (λb hb=>Or.inl hb))) (λe=>by cases e)
end
end
end
variable{a:Int}
theorem Vp(h:0<=a/\a<=4294967295):(Lit.int .u32 a).wf=true:=by
 have h1:IntKind.u32.min=0:=by decide
 have h2:IntKind.u32.max=4294967295:=by decide
 simp[Lit.wf,h1,h2];omega
variable{P:Program}{d:Nat}
theorem wu{t:TypeId}(ht:P.underlying t=some (.int .u32))(ha:(Lit.int .u32 a).wf=true):P.keyLits (d+1) t [.w a]=some [.w a]:=by
 simp[Program.keyLits,ht,ha]
theorem F0{k:TypeId}{f1 f2:Field}{b:Int}(hk:P.underlying k=some (.struct #[f1,f2]))(hc:P.cellsOf k=2)(hn:(#[f1,f2]:Array Field).all (·.name != "_")=true)
  (h1:P.underlying f1.type=some (.int .u32)) (h2:P.underlying f2.type=some (.int .u32)) (o1:f1.offset=0) (o2:f2.offset=1) (c1:P.cellsOf f1.type=1) (c2:P.cellsOf f2.type=1) (ha:(Lit.int .u32 a).wf=true) (hb:(Lit.int .u32 b).wf=true):
  P.keyLits (d+2) k [.w a,.w b]=some [.w a,.w b]:=by
 unfold Program.keyLits;rw[hk];have e1:[Value.w a,.w b].length=P.cellsOf k/\(#[f1,f2]:Array Field).all (·.name != "_")=true:=⟨by rw[hc];rfl,hn⟩;show(if _ then _ else none)=_;rw[if_pos e1];show((([f1,f2]:List Field).mapM λf=>P.keyLits (d+1) f.type (([Value.w a,.w b].drop f.offset).take (P.cellsOf f.type))).map List.flatten)=_;simp only[List.mapM_cons,List.mapM_nil,o1,o2,c1,c2,List.drop_zero,List.drop_succ_cons,List.take_succ_cons,List.take_zero,wu h1 ha,wu h2 hb,Option.bind_eq_bind,Option.bind_some,Option.pure_def,Option.map_some]
 rfl
theorem Oo{n:Nat}{k:TypeId}{f1 f2:Field}{q:Ky}(hs:P.types.size=n+1)(hk:P.underlying k=some (.struct #[f1,f2]))(hkt:P.keyType k=true)(hf:(kyV q).formed P k=true)(hc:P.cellsOf k=2)(hn:(#[f1,f2]:Array Field).all (·.name != "_")=true)
  (h1:P.underlying f1.type=some (.int .u32)) (h2:P.underlying f2.type=some (.int .u32)) (o1:f1.offset=0) (o2:f2.offset=1) (c1:P.cellsOf f1.type=1) (c2:P.cellsOf f2.type=1) (hq:ly q):∃l,keyOf P k (kyV q)=some l:=by
 refine⟨.string (keyBytes [.w q.1,.w q.2]),?_⟩;unfold keyOf;rw[hk];show(if _ then _ else none)=_;rw[if_pos (by rw[hkt,hf];rfl),hs];show(P.keyLits (n+2) k [.w q.1,.w q.2]).map _=_;rw[F0 hk hc hn h1 h2 o1 o2 c1 c2 (Vp hq.1) (Vp hq.2)]
 rfl
def V4(P:Program)(k:Nat)(T:TypeId)(a b:Value)(r:Bool):Prop:=∀w:World,(Op.equalIn k T a b).run P w= .ok r w
def Vh(P:Program)(k:Nat)(xs ys:Array Value)(fs:List Field)(r:Bool):Prop:=∀w:World,(Op.eqFields k xs ys fs).run P w= .ok r w
section
variable {P:Program} {k:Nat} {T:TypeId}
theorem Vh.nil{xs ys:Array Value}:Vh P k xs ys [] true:=λw=>rfl
theorem Vh.cons{xs ys:Array Value}{f:Field}{fs:List Field}{a b:Value}{r1 r2:Bool}(hn:f.name≠ "_")(ha:∀w,(part f.type xs f.offset).run P w= .ok a w)(hb:∀w,(part f.type ys f.offset).run P w= .ok b w)(he:V4 P k f.type a b r1)(h:Vh P k xs ys fs r2):Vh P k xs ys (f::fs) (r1&&r2):=λw=>by
 cases r1 with
 |true=>
  simp only[Op.eqFields,if_pos hn,Sem.run_bind,ha w,hb w,Result.andThen_ok,he w,Bool.not_true,Bool.false_eq_true,if_false];exact h w
 |false=>simp[Op.eqFields,if_pos hn,Sem.run_bind,ha w,hb w,Result.andThen_ok,he w]
theorem V4.int{kd kd':IntKind}{a b:Int}(h:P.underlying T=some (.int kd')):V4 P (k+1) T (.int kd a) (.int kd b) (a==b):=λw=>by
 rw[run_equalIn_int w k T kd kd' a b h]
theorem V4.struct{xs ys:Array Value}{r:Bool}(h:P.underlying T=some (.struct (P.fieldsOf T)))(hp:P.stoodInHeld T=false)(hf:Vh P k xs ys (P.fieldsOf T).toList r):V4 P (k+1) T (.agg xs) (.agg ys) r:=λw=>by
 rw[run_equalIn_struct w k T xs ys h hp];exact hf w
end
section
variable {C:Cx} {fr:Fr} {d:Option Nat} {T T':TypeId} {x y:Operand} {ty:TypeId} {pos:String} {af:Array Edge} {gd:Option (Nat×Bool)} {g r:Bool}
theorem LW{xs ys:Array Value}(hm:C.P.eqGuardType C.P.depth T=false)(he:V4 C.P 10000 T (.agg xs) (.agg ys) r)(hx:Ev fr g x (.agg xs))(hy:Ev fr g y (.agg ys)):OpY C ⟨d,.binOp .eql T x y T',ty,pos,af,gd⟩ fr g Any (.bool r):=λA w hf _ hg=>by
 simp[execOp,hx.eval hf hg,hy.eval hf hg,run_eqGuard_agg w _ _ _ _ _ _ hm,run_eql_struct,he w,Result.andThen]
end
theorem FZ(p q:Ky):V4 prog 10000 206 (.agg #[.w p.1,.w p.2]) (.agg #[.w q.1,.w q.2]) (p==q):=by
 have h:V4 prog 10000 206 (.agg #[.w p.1,.w p.2]) (.agg #[.w q.1,.w q.2]) ((p.1==q.1)&&((p.2==q.2)&&true)):=
  .struct rfl kT (Vh.cons bX Zrf Zrf (.int rfl) (Vh.cons bX Zrf Zrf (.int rfl) Vh.nil))
 rw[Bool.and_true]at h;exact h
theorem wq:prog.eqGuardType prog.depth 206=false:=by kernel_rfl
theorem SP:∃f1 f2:Field,prog.underlying 206=some (.struct #[f1,f2])/\(#[f1,f2]:Array Field).all (·.name != "_")=true/\prog.underlying f1.type=some (.int .u32)/\prog.underlying f2.type=some (.int .u32)/\f1.offset=0/\f2.offset=1/\prog.cellsOf f1.type=1/\prog.cellsOf f2.type=1:=
 ⟨_,_,rfl,by kernel_rfl,rfl,rfl,rfl,rfl,by kernel_rfl,by kernel_rfl⟩
theorem keyKind:prog.keyType 206=true:=by kernel_rfl
theorem Ik:prog.cellsOf 206=2:=by kernel_rfl
theorem VG:(206:TypeId)<prog.types.size:=of_decide_eq_true kT
theorem keyWide:(match prog.underlying 206 with|some (.array _ _)|some (.struct _)=>true|_=>false)=true:=by kernel_rfl
theorem FX:sK prog 206:=by
 refine⟨Maps.Keyed.of_law (deep_law_laid wm (m:=2) Wq1 VG kT keyWide),λq hq=>?_⟩;obtain⟨f1,f2,hu,h1,h2,h3,h4,h5,h6,h7⟩:=SP;obtain⟨n,hn⟩:∃n,prog.types.size=n+1:=⟨prog.types.size - 1,by have:(206:Nat)<prog.types.size:=VG;omega⟩;exact Oo hn hu keyKind (by simp[kyV,Value.formed,hu,Ik]) Ik h1 h2 h3 h4 h5 h6 h7 hq
end Go.Ink
