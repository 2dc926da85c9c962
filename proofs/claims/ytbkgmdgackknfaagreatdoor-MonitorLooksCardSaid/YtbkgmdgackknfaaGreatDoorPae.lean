/- Lemmas. -/
import Derived.Test.YtbkgmdgackknfaaGreatDoorPad
import Derived.Test.YtbkgmdgackknfaaGreatDoorProg
import Derived.Test.YtbkgmdgackknfaaGreatDoorRows
set_option linter.unusedSimpArgs false
set_option linter.unusedVariables false
set_option maxRecDepth 100000
set_option maxHeartbeats 4000000
namespace Go.Ink
open Go.RowKit Go.Proofs.Tryz
structure St where
 pc:Int
 d:List Int
 r:List Int
 flags:Int
 RM:Bool
 RW:Bool
 ie:Bool
 root:Int
 vec:Int
 epc:Int
 RN:Int
 addr:Int
 Sa:Bool
 eie:Bool
 count:Int
 halted:Bool
abbrev St.cells(s:St)(dv rv:Value):List Value:=
 [.w s.pc,dv,rv,.w s.flags,.bool s.RM,.bool s.RW,.bool s.ie,.w s.root,.w s.vec,.w s.epc,.w s.RN,.w s.addr,.bool s.Sa,.bool s.eie,.int .u64 s.count,.bool s.halted]
def b2i(b:Bool):Int:=bif b then 1 else 0
def gx(n lo hi:Int):Int:=lo+n%(hi - lo+1)
def St.zero:St:=⟨0,[],[],0,false,false,false,0,0,0,0,0,false,false,0,false⟩
def St.new:St:={St.zero with RM:=true}
def St.R8(s:St)(RN addr:Int):St:=
 {s with epc:=s.pc,RN:=IntKind.u32.wrap RN,addr:=addr,Sa:=s.RM,eie:=s.ie,RM:=true,ie:=false,pc:=s.vec}
def St.back(s:St):St:={s with pc:=s.epc,RM:=s.Sa,ie:=s.eie}
def St.get(s:St)(reg:Int):Int×Bool:=
 bif reg==0 then(b2i s.ie,true)else bif reg==1 then(b2i s.RW,true)else bif reg==2 then(s.root,true)else bif reg==3 then(s.vec,true)else bif reg==4 then(s.epc,true)else
 bif reg==5 then(s.RN,true)else bif reg==6 then(s.addr,true)else bif reg==7 then(b2i s.Sa,true)else bif reg==8 then(b2i s.eie,true)else bif reg==9 then(IntKind.u32.wrap s.count,true)else
 bif reg==10 then(s.flags,true)else(0,false)
def St.set(s:St)(reg v:Int):St×Bool:=
 bif reg==0 then({s with ie:=v !=0},true)else bif reg==1 then({s with RW:=v !=0},true)else bif reg==2 then({s with root:=bits .andNot .u32 v 63},true)else bif reg==3 then({s with vec:=v},true)else
 bif reg==4 then({s with epc:=v},true)else bif reg==5 then({s with RN:=v},true)else bif reg==6 then({s with addr:=v},true)else bif reg==7 then({s with Sa:=v !=0},true)else bif reg==8 then({s with eie:=v !=0},true)else
 bif reg==10 then({s with flags:=bits .and .u32 v 15},true)else(s,false)
def St.same(a b:St):Bool:=
 (((a.d==b.d)&&(a.r==b.r))&&((((((((a.pc==b.pc)&&(a.flags==b.flags))&&(a.RM==b.RM))&&(a.RW==b.RW))&&(a.ie==b.ie))&&(a.root==b.root))&&(a.vec==b.vec)))&&(((((a.epc==b.epc)&&(a.RN==b.RN))&&(a.addr==b.addr))&&(a.Sa==b.Sa))&&(a.eie==b.eie)))&&(a.count==b.count)&&(a.halted==b.halted)
def St.right(s:St):Bool:=decide ((s.d.length:Int)<=16)&&decide ((s.r.length:Int)<=16)&&decide (s.flags<=15)
def u32(x:Int):Prop:=0<=x/\x<=4294967295
def u8s(l:List Int):Prop:=∀x,x∈l->0<=x/\x<=255
structure St.wf(s:St):Prop where
 pc:u32 s.pc
 flags:u32 s.flags
 root:u32 s.root
 vec:u32 s.vec
 epc:u32 s.epc
 RN:u32 s.RN
 addr:u32 s.addr
 count:0<=s.count/\s.count<=18446744073709551615
 d:∀x,x∈s.d->u32 x
 r:∀x,x∈s.r->u32 x
section
attribute [local irreducible] OpY bH
theorem KE(b:Bool)(w:World):Ctr prog 247 [.bool b] w [] (λv cs=>v= .w (b2i b)/\cs=[]):=by
 refine Zfs func247 ntmps247 ?_;refine gK ?_;refine ZW ?_ ?_<;>intro hc1
 .subst hc1;refine Z_7 ?_;exact pM
 subst hc1;refine gf ?_;exact fy
theorem fu(n lo hi:Int)(w:World)(h0:0<=lo)(h1:lo<=hi)(h2:hi<=1000000000000):Ctr prog 14 [.i n,.i lo,.i hi] w [] (λv cs=>v= .i (gx n lo hi)/\cs=[]):=by
 obtain⟨m,hm⟩:∃m,m=hi - lo+1:=⟨_,rfl⟩;obtain⟨t,ht⟩:∃t,t=n.tmod m:=⟨_,rfl⟩;have e1:t<m:=by rw[ht];exact Int.tmod_lt_of_pos _ Wq1
 have e2: - m<t:=by
  have:=Int.tmod_lt_of_pos (-n) (b:=m) Wq1;rw[Int.neg_tmod]at this;omega
 have e3:t%m=n%m:=by
  rw[ht,Int.tmod_eq_emod];split
  .simp
  rw[Int.natAbs_of_nonneg Wq1];simp
 rw[hm]at ht e1 e2;refine Zfs func14 ntmps14 ?_;refine fB ?_;refine oN ?_;refine ri ?_;refine Zy (i4 (Zv rfl) (Zv rfl) Wq1 (show _=t from by rw[ht])) ?_;refine pV ?_ ?_<;>intro hc2
 .refine Z_3 ?_;refine ri ?_;refine ZA ?_;refine oN ?_;refine ri ?_;refine Z_7 ?_;refine ri ?_;refine Z_4 ?_;refine Zra ?_;simp only[ae]at hc2;refine⟨congrArg _ ?_,rfl⟩;unfold gx;rw[<-hm,<-e3];have e4:(t+m)%m=t%m:=by simp
  rw[<-e4,Int.emod_eq_of_lt Wq1 Wq1];omega
 refine Z_6 ?_;refine ri ?_;refine Z_4 ?_;refine Zra ?_;simp only[ac]at hc2;refine⟨congrArg _ ?_,rfl⟩;unfold gx;rw[<-hm,<-e3,Int.emod_eq_of_lt Wq1 Wq1]
theorem Gi(A:Option Addr)(n c:Nat)(xs:List Int)(w:World)(h:Rd w .u32 A n c xs)(hn:n*4<=140737488355328):Ctr prog 97 [.slice A n c] w [] (λv cs=>∃A' c',v= .slice A' n c'/\cs=[sl .u32 39 A' n c' xs]):=by
 refine Zfs func97 ntmps97 ?_;refine fD ?_;refine ZW ?_ ?_<;>intro hc1
 .obtain rfl:A=none:=by simpa using hc1
  obtain⟨rfl,rfl⟩:=h.nil rfl;obtain rfl:xs=[]:=by have:=h.len;simpa[ints]using this
  refine Z_2 ?_;refine cT 39 1 (Z_5 ?_);exact IC
 refine Z_4 ?_;refine kY ?_;rintro _ _ ⟨b5,rfl,rfl⟩;refine ZA ?_;refine fW (cj (e:=39) (sz:=1) (bytes:=4) rfl rfl Za rfl rfl (λw hi=>h.RU hi) di gq Wq1) rfl ?_;rintro _ _ ⟨A',c',rfl,rfl⟩;simp only[Nat.zero_add,aP];refine Z_4 ?_;exact IC
structure pY(w:World)(s:St)(Ad Ar:Option Addr)(cd cr:Nat):Prop where
 d:Rd w .u32 Ad s.d.length cd s.d
 r:Rd w .u32 Ar s.r.length cr s.r
 hd:s.d.length*4<=140737488355328
 hr:s.r.length*4<=140737488355328
theorem pY.RU{w0 w:World}{cs:List bC}{s:St}{Ad Ar:Option Addr}{cd cr:Nat}(h:pY w0 s Ad Ar cd cr)(hi:Inv w0 [] cs w):pY w s Ad Ar cd cr:=⟨h.d.RU hi,h.r.RU hi,h.hd,h.hr⟩
abbrev sv(s:St)(Ad:Option Addr)(cd:Nat)(Ar:Option Addr)(cr:Nat):Value:= .agg (s.cells (.slice Ad s.d.length cd) (.slice Ar s.r.length cr)).toArray
abbrev slD(s:St)(A:Option Addr)(c:Nat):bC:=sl .u32 39 A s.d.length c s.d
abbrev slR(s:St)(A:Option Addr)(c:Nat):bC:=sl .u32 39 A s.r.length c s.r
def QQ(s:St)(v:Value)(cs:List bC):Prop:=∃Ad cd Ar cr,v=sv s Ad cd Ar cr/\cs=[slD s Ad cd,slR s Ar cr]
theorem _root_.Go.Ink.Inv.Tq{w0 w:World}{S:List Nat}{cs:List bC}{s:St}{Ad Ar:Option Addr}{cd cr:Nat}(hi:Inv w0 S cs w)(h1:Has cs (slD s Ad cd))(h2:Has cs (slR s Ar cr))(hd:s.d.length*4<=140737488355328)(hr:s.r.length*4<=140737488355328):pY w s Ad Ar cd cr:=
 ⟨hi.rd h1,hi.rd h2,hd,hr⟩
theorem mz(s:St)(Ad Ar:Option Addr)(cd cr:Nat)(w:World)(h:pY w s Ad Ar cd cr):Ctr prog 74 [sv s Ad cd Ar cr] w [] (QQ s):=by
 refine Zfs func74 ntmps74 ?_;refine Z_2 ?_;refine ZO λb1=>?_;refine ZN λb2=>?_
 refine Z_3 ?_;refine bL ⟨λj=>List.elem j [7,9],[]⟩ Zk (ZFe 0 1 ?_);refine ZG 1 ?_;refine ZFe 3 2 ?_;refine ZG 4 ?_;refine cn 2 Zk (ZTn (λw hi=>Gi Ad _ cd s.d w (h.d.RU hi) h.hd) ?_);rintro _ _ ⟨A1,c1,rfl,rfl⟩;refine ZFe 6 1 ?_;refine cn 5 Zk (ZTn (λw hi=>Gi Ar _ cr s.r w (h.r.RU hi) h.hr) ?_);rintro _ _ ⟨A2,c2,rfl,rfl⟩;refine sy ?_;refine ZFe 8 2 ?_;refine cn 9 Zk (nO ?_);refine Z_4 ?_;exact Wq213
theorem uK(s:St)(Ad Ar:Option Addr)(cd cr:Nat)(RN addr:Int)(w:World)(h:pY w s Ad Ar cd cr):Ctr prog 135 [sv s Ad cd Ar cr,.i RN,.w addr] w [] (QQ (s.R8 RN addr)):=by
 refine Zfs func135 ntmps135 ?_;refine Z_2 ?_;refine ZO λb3=>?_;refine ZN λb6=>?_
 refine Z_5 ?_;refine ZSn (λw hi=>mz s Ad Ar cd cr w (h.RU hi)) ?_;rintro _ _ ⟨A1,c1,A2,c2,rfl,rfl⟩;refine ZM ?_;refine Z_7 ?_;refine nP ?_;refine Z_6 ?_;refine ZL ?_;refine gP ?_;refine gP ?_;refine gP ?_;refine gP ?_;refine Z_7 ?_;refine ZL ?_;refine gP ?_;refine gP ?_;refine Z_5 ?_;exact Wq213
theorem J8(s:St)(Ad Ar:Option Addr)(cd cr:Nat)(w:World)(h:pY w s Ad Ar cd cr):Ctr prog 213 [sv s Ad cd Ar cr] w [] (QQ s.back):=by
 refine Zfs func213 ntmps213 ?_;refine Z_2 ?_;refine ZO λb1=>?_;refine ZN λb2=>?_
 refine Z_5 ?_;refine ZSn (λw hi=>mz s Ad Ar cd cr w (h.RU hi)) ?_;rintro _ _ ⟨A1,c1,A2,c2,rfl,rfl⟩;refine ZM ?_;refine gK ?_;refine ZL ?_;refine gP ?_;refine gP ?_;refine Z_5 ?_;exact Wq213
theorem Tg(w:World):Ctr prog 55 [] w [] (λv cs=>v=sv St.new none 0 none 0/\cs=[]):=by
 refine Zfs func55 ntmps55 ?_;refine Z_2 ?_;refine ZN λb0=>?_;refine Z_5 ?_;refine Wq46 ?_;exact fy
theorem Rm(s:St)(dv rv:Value)(reg:Int)(w:World):Ctr prog 200 [.agg (s.cells dv rv).toArray,.i reg] w [] (λv cs=>v= .tuple #[.w (s.get reg).1,.bool (s.get reg).2]/\cs=[]):=by
 refine Zfs func200 ntmps200 ?_;refine Z_2 ?_;refine ZO λb2=>?_;refine AG ?_;refine ZW ?_ ?_<;>intro hc2
 .refine Qw ?_;refine⟨?_,rfl⟩;exact tK
 refine Zw6 ?_ ?_<;>intro hc4
 .refine Qw ?_;refine⟨?_,rfl⟩;exact tK
 refine Zw6 ?_ ?_<;>intro hc6
 .refine gK ?_;refine mQ ?_;refine⟨?_,rfl⟩;exact tK
 refine Zw6 ?_ ?_<;>intro hc8
 .refine gK ?_;refine mQ ?_;refine⟨?_,rfl⟩;exact tK
 refine Zw6 ?_ ?_<;>intro hc10
 .refine gK ?_;refine mQ ?_;refine⟨?_,rfl⟩;exact tK
 refine Zw6 ?_ ?_<;>intro hc12
 .refine gK ?_;refine mQ ?_;refine⟨?_,rfl⟩;exact tK
 refine Zw6 ?_ ?_<;>intro hc14
 .refine gK ?_;refine mQ ?_;refine⟨?_,rfl⟩;exact tK
 refine Zw6 ?_ ?_<;>intro hc16
 .refine Qw ?_;refine⟨?_,rfl⟩;exact tK
 refine Zw6 ?_ ?_<;>intro hc18
 .refine Qw ?_;refine⟨?_,rfl⟩;exact tK
 refine Zw6 ?_ ?_<;>intro hc20
 .refine Z_4 ?_;refine nP ?_;refine Z_7 ?_;refine mQ ?_;refine⟨?_,rfl⟩;exact tK
 refine Zw6 ?_ ?_<;>intro hc22
 .refine gK ?_;refine mQ ?_;refine⟨?_,rfl⟩;exact tK
 refine fB ?_;refine mQ ?_;refine⟨?_,rfl⟩;exact tK
theorem Rb(s:St)(Ad Ar:Option Addr)(cd cr:Nat)(reg v:Int)(w:World)(h:pY w s Ad Ar cd cr):Ctr prog 201 [sv s Ad cd Ar cr,.i reg,.w v] w []
  (λx cs=>∃Ad' cd' Ar' cr',x= .tuple #[sv (s.set reg v).1 Ad' cd' Ar' cr',.bool (s.set reg v).2]/\cs=[slD s Ad' cd',slR s Ar' cr']):=by
 refine Zfs func201 ntmps201 ?_;refine Z_2 ?_;refine ZO λb3=>?_;refine ZN λb6=>?_
 refine Z_6 ?_;refine ZSn (λw hi=>mz s Ad Ar cd cr w (h.RU hi)) ?_;rintro _ _ ⟨A1,c1,A2,c2,rfl,rfl⟩;refine ZM ?_;refine sx ?_;refine ZW ?_ ?_<;>intro hc4
 .refine Z_4 ?_;refine Nn ?_;refine⟨A1,c1,A2,c2,?_,rfl⟩;clear h;exact wI
 refine Zw6 ?_ ?_<;>intro hc6
 .refine Z_4 ?_;refine Nn ?_;refine⟨A1,c1,A2,c2,?_,rfl⟩;clear h;exact wI
 refine Zw6 ?_ ?_<;>intro hc8
 .refine Z_2 ?_;refine Zy (tO Zv0 Zv0 rfl) ?_;refine Z_1 ?_;refine Nn ?_;refine⟨A1,c1,A2,c2,?_,rfl⟩;clear h;exact wI
 refine Zw6 ?_ ?_<;>intro hc10
 .refine Z_3 ?_;refine Nn ?_;refine⟨A1,c1,A2,c2,?_,rfl⟩;clear h;exact wI
 refine Zw6 ?_ ?_<;>intro hc12
 .refine Z_3 ?_;refine Nn ?_;refine⟨A1,c1,A2,c2,?_,rfl⟩;clear h;exact wI
 refine Zw6 ?_ ?_<;>intro hc14
 .refine Z_3 ?_;refine Nn ?_;refine⟨A1,c1,A2,c2,?_,rfl⟩;clear h;exact wI
 refine Zw6 ?_ ?_<;>intro hc16
 .refine Z_3 ?_;refine Nn ?_;refine⟨A1,c1,A2,c2,?_,rfl⟩;clear h;exact wI
 refine Zw6 ?_ ?_<;>intro hc18
 .refine Z_4 ?_;refine Nn ?_;refine⟨A1,c1,A2,c2,?_,rfl⟩;clear h;exact wI
 refine Zw6 ?_ ?_<;>intro hc20
 .refine Z_4 ?_;refine Nn ?_;refine⟨A1,c1,A2,c2,?_,rfl⟩;clear h;exact wI
 refine Zw6 ?_ ?_<;>intro hc22
 .refine Z_4 ?_;refine Nn ?_;refine⟨A1,c1,A2,c2,?_,rfl⟩;clear h;exact wI
 refine Z_3 ?_;refine jh ?_;refine ph (cs':=[slv _ _ _ _ _ _,slv _ _ _ _ _ _]) (.inl rfl) Zu rfl rfl rfl Zh Zrf Zrf ⟨A1,c1,A2,c2,?_,rfl⟩;clear h;exact wI
theorem oe(s:St)(Ad Ar:Option Addr)(cd cr:Nat)(w:World):Ctr prog 94 [sv s Ad cd Ar cr] w [] (λv cs=>v= .bool s.right/\cs=[]):=by
 refine Zfs func94 ntmps94 ?_;refine Z_2 ?_;refine ZO λb1=>?_;refine kX ?_;exact mF
theorem Fo(A A2:Option Addr)(c c2:Nat)(xs ys:List Int)(w:World)(h:Rd w .u32 A xs.length c xs)(h2:Rd w .u32 A2 ys.length c2 ys):
  Ctr prog 67 [.slice A xs.length c,.slice A2 ys.length c2] w [] (λv cs=>v= .bool (xs==ys)/\cs=[]):=by
 have hm:=h.max;have hc:=h.cap;unfold maxLen at hm;refine Zfs func67 ntmps67 ?_;refine sx ?_;refine ZW ?_ ?_<;>intro hc1
 .have hne:(xs==ys)=false:=by rw[beq_eq_false_iff_ne];rintro rfl;simp at hc1
  refine Z_7 ?_;refine Zra ?_
  grind
 have hlen:xs.length=ys.length:=by(have:(xs.length:Int)=ys.length:=by simpa using hc1);omega
 refine Z_9 ?_;refine bN (λk:Nat=>[(5,.i (k:Int)),(0,.slice A xs.length c),(1,.slice A2 ys.length c2)]) (λ_=>[]) (λk=>k<=xs.length/\xs.take k=ys.take k) (λk=>xs.length - k) (0) ?_ ?_ ?_ ?_
 .grind
 .exact Zwk
 .exact Zu
 rintro k ⟨hk,he⟩;refine Zw9 ?_ ?_<;>intro hc4
 .simp only[ae]at hc4;obtain⟨ad,rfl⟩:=h.some_ Wq1;obtain⟨ad2,rfl⟩:=h2.some_ Wq1;refine Z_5 ?_;refine Dd ?_;refine Zy4 2 rfl (bS rfl Zrf (Zv rfl) (Zv rfl) Zrf Wq2) ?_;refine Zy5 3 rfl (bF Zrf (Zv rfl)) (dL h (mm (show k<xs.length by omega))) ?_;refine ZE 4 ?_;refine ZE 5 ?_;refine Zy4 6 rfl (bS rfl Zrf (Zv rfl) (Zv rfl) Zrf Wq2) ?_;refine Zy5 7 rfl (bF Zrf (Zv rfl)) (dL h2 (mm (show k<ys.length by omega))) ?_;refine ZE 8 ?_;refine eQ ?_;refine Zt (ZW ?_ ?_)<;>intro hc6
  .have hne:(xs==ys)=false:=by rw[beq_eq_false_iff_ne];rintro rfl;simp at hc6
   refine rf ?_;exact⟨by rw[hne],rfl⟩
  have heq:xs[k]'(by omega)=ys[k]'(by omega):=by simpa using hc6
  refine gv ?_;refine dM (k+1) ?_ ?_ ?_
  .refine⟨⟨by omega,?_⟩,by omega⟩;rw[List.take_succ_eq_append_getElem Wq1,List.take_succ_eq_append_getElem Wq1,he,heq]
  .exact Zwk
  exact Zu
 simp only[ac]at hc4;refine rf ?_;refine⟨?_,rfl⟩;have hkk:k=xs.length:=by omega
 subst hkk;rw[bl]at he;rw[he,hlen,bl];simp
def St.Td(a b:St):Bool:=
 (((((((((((((((a.pc==b.pc)&&(a.d==b.d))&&(a.r==b.r))&&(a.flags==b.flags))&&(a.RM==b.RM))&&(a.RW==b.RW))&&(a.ie==b.ie))&&(a.root==b.root))&&(a.vec==b.vec))&&(a.epc==b.epc))&&(a.RN==b.RN))&&(a.addr==b.addr))&&(a.Sa==b.Sa))&&(a.eie==b.eie))&&(a.count==b.count))&&(a.halted==b.halted)
theorem St.S2(a b:St):a.Td b=true<->a=b:=by
 unfold St.Td;constructor
 .intro h;simp only[aD,beq_iff_eq]at h;obtain⟨⟨⟨⟨⟨⟨⟨⟨⟨⟨⟨⟨⟨⟨⟨h1,h2⟩,h3⟩,h4⟩,h5⟩,h6⟩,h7⟩,h8⟩,h9⟩,h10⟩,h11⟩,h12⟩,h13⟩,h14⟩,h15⟩,h16⟩:=h;cases a;simp_all
 grind
theorem St.S7(a:St):a.Td a=true:=(St.S2 a a).2 rfl
set_option maxRecDepth 100000 in
theorem Oj(s t:St)(Ad Ar Bd Br:Option Addr)(cd cr ed er:Nat)(w:World)(h:pY w s Ad Ar cd cr)(h2:pY w t Bd Br ed er):
  Ctr prog 40 [sv s Ad cd Ar cr,sv t Bd ed Br er] w [] (λv cs=>v= .bool (s.Td t)/\cs=[]):=by
 refine Zfs func40 ntmps40 ?_;refine Z_2 ?_;refine ZO λb2=>?_;refine ZO λb3=>?_
 refine sx ?_;refine dU (bM rfl rfl) (.cons (bU rfl) (.cons (bU rfl) .nil)) (λ_ _=>rfl) (λhg w hi=>Fo Ad Bd cd ed s.d t.d w (h.d.RU hi) (h2.d.RU hi)) rfl (Z_6 ?_);refine dU (bM rfl rfl) (.cons (bU rfl) (.cons (bU rfl) .nil)) (λ_ _=>rfl) (λhg w hi=>Fo Ar Br cr er s.r t.r w (h.r.RU hi) (h2.r.RU hi)) rfl (kX ?_);refine kX ?_;refine kX ?_;refine kX ?_;refine sw ?_;exact pM
theorem fT(n lo hi:Int)(h:lo<=hi):lo<=gx n lo hi/\gx n lo hi<=hi:=by
 unfold gx;have h1:=Int.emod_nonneg n (show hi - lo+1≠0 by omega);have h2:=Int.emod_lt_of_pos n (show 0<hi - lo+1 by omega);omega
def St.So(s:St):List Int:=[b2i s.ie,b2i s.RW,s.root,s.vec,s.epc,s.RN,s.addr,b2i s.Sa,b2i s.eie,IntKind.u32.wrap s.count,s.flags]
theorem Nj:ownKnob prog.godebug=none:=by kernel_rfl
theorem vJ:laidOutB prog=true:=by kernel_rfl
theorem Q3{n:Int}(h:(Lit.int .u32 n).wf=true):u32 n:=by
 simp only[Lit.wf,aD,ae]at h;have h1:IntKind.u32.min=0:=rfl;have h2:IntKind.u32.max=4294967295:=rfl;rw[h1,h2]at h;exact h
theorem Rx{W:World}{t:TypeId}{k:IntKind}{c:Value}(ht:prog.underlying t=some (.int k))(h:Arg prog W t [c]):∃n,c= .int k n/\(Lit.int k n).wf=true:=by
 obtain⟨n,h1,h2⟩:=h.int ht
 grind
theorem jl{f:FuncId}{args:List Value}{w:World}(h:Ctr prog f args w [] (λv cs=>v= .bool true/\cs=[])):Calls prog f args.toArray w λe w'=>e= .returned (.bool true)/\Below w.heap.size w w':=
 Calls.mono h λ_ _ ⟨_,_,he,⟨h1,h2⟩,hi⟩=>⟨by rw[he,h1],hi.Sf.below⟩
section
open Go.MapKept
open Go.ChangeMaps (setBlock)
theorem Pb{α:Type}(cur vs:List α)(o m:Nat)(h:o+vs.length<=m)(hm:m<=cur.length):(cur.take o++vs++cur.drop (o+vs.length)).take m=(cur.take m).take o++vs++(cur.take m).drop (o+vs.length):=by
 rw[List.take_append,List.take_of_length_le bR,List.take_take,Nat.min_eq_left Wq1,List.drop_take,aq,aI,Nat.min_eq_left Wq1]
theorem yF(z:List Value)(k:Nat)(hz:0<z.length):∀u,u∈(Builtin.zeroCells z.toArray k).toList->u∈z:=by grind [Builtin.zeroCells,Array.toList_map,Nat.mod_lt,List.getElem?_eq_getElem]
theorem yG(z:List Value)(k:Nat):(Builtin.zeroCells z.toArray k).toList.length=k*z.length:=by simp[Builtin.zeroCells]
section
variable {C:Cx} {fr:Fr} {cs:List bC} {d:Option Nat} {T T' k e:TypeId} {x y z:Operand} {ty:TypeId} {pos:String} {af:Array Edge} {gd:Option (Nat×Bool)} {g:Bool} {v:Value} {mk:bC->List bC}
theorem uU{bb o n c sz:Nat}{xs vs:List Value}(hT:∀w,(sizeOf T).run C.P w= .ok sz w)(hx:ev fr x=some (.pointer (some ⟨bb,o,none⟩)))(hy:ev fr y=some (.agg vs.toArray))(h1:∀u∈vs,u.oneCell'=true)(hu:At cs (slv e sz (sA bb) n c xs) mk)(hn:vs.length=sz)(ho:o+sz<=n*sz):
  OpT C ⟨d,.store T x y,ty,pos,af,gd⟩ fr cs true (λu cs'=>u=undef/\cs'=mk (slv e sz (sA bb) n c (xs.take o++vs++xs.drop (o+sz)))):=λa w hf hi next Q h=>by
 have hown:w.ownsRow 0 e sz (.slice (sA bb) n c) n xs:=hi.get hu.has;obtain⟨hl0,h2⟩:=hown;rcases h2 with⟨hv,_⟩|⟨g',cap,cur,hv,hg0,hh,hnc,hcm,hcs,htk⟩
 .cases hv
 simp only[Value.slice.injEq,aU,Addr.mk.injEq,and_true,true_and]at hv;obtain⟨rfl,rfl⟩:=hv;have hle:n*sz<=c*sz:=Nat.mul_le_mul_right _ hnc;have hcl:cur.toList.length=c*sz:=by simpa using hcs
 have hst:=run_storeCells_at C.P bb o e vs 0 cur w hh Wq1 h1;simp only[Nat.add_zero]at hst;have hk:cY [bb] w (w.setRow bb (cur.toList.take o++vs++cur.toList.drop (o+vs.length)).toArray):=⟨rfl,rfl,rfl,by simp_all,λj _ hj=>by
  grind [World.setRow]⟩
 have hr:(execOp a.eval ⟨d,.store T x y,ty,pos,af,gd⟩).run C.P w= .ok .skip (w.setRow bb (cur.toList.take o++vs++cur.toList.drop (o+vs.length)).toArray):=by
  simp[execOp,hf.ev hx,hf.ev hy,Instr.storeAt,Instr.sureAddr,storeVar,hT,Value.cells,hst,hn]
 have hown2:(w.setRow bb (cur.toList.take o++vs++cur.toList.drop (o+vs.length)).toArray).ownsRow 0 e sz (.slice (sA bb) n c) n (xs.take o++vs++xs.drop (o+sz)):=by
  refine⟨?_,.inr ⟨bb,c,(cur.toList.take o++vs++cur.toList.drop (o+vs.length)).toArray,rfl,hg0,?_,hnc,hcm,?_,?_⟩⟩
  .grind
  .grind [World.setRow]
  .grind
  grind [Pb]
 unfold Oper.wp;rw[hr];refine h _ _ _ ⟨rfl,rfl⟩ (hi.upd (hu _) w9 (kA w9 hown2 λa ha=>?_)) (λe=>by cases e)
 grind [bC.bs,ab]
theorem Bu{bb o k cc n c sz:Nat}{xs zs:List Value}{z:Value}(hx:ev fr x=some (.slice (some ⟨bb,o,none⟩) k cc))(hu:At cs (slv e sz (sA bb) n c xs) mk)(ht:C.P.underlying T=some (.slice e))(hz:∀w,(zeroValue e).run C.P w= .ok z w)(hz1:z.cells=zs.toArray)(hzl:zs.length=sz)(hs0:0<sz)(hz2:∀u∈zs,u.oneCell'=true)(hno:n*sz<=o)(hoc:o+k*sz<=c*sz):
  OpT C ⟨d,.call {callee:= .builtin .clear,args:= #[x],argTypes:= #[T]},ty,pos,af,gd⟩ fr cs true (λv cs'=>v= .tuple #[]/\cs'=mk (slv e sz (sA bb) n c xs)):=λa w hf hi next Q h=>by
 have hown:w.ownsRow 0 e sz (.slice (sA bb) n c) n xs:=hi.get hu.has;obtain⟨hl0,h2⟩:=hown;rcases h2 with⟨hv,_⟩|⟨g',cap,cur,hv,hg0,hh,hnc,hcm,hcs,htk⟩
 .cases hv
 simp only[Value.slice.injEq,aU,Addr.mk.injEq,and_true,true_and]at hv;obtain⟨rfl,rfl⟩:=hv;have hcl:cur.toList.length=c*sz:=by simpa using hcs
 obtain⟨ZC,hZC⟩:=Zgn ((Builtin.zeroCells zs.toArray k).toList);have hZl:ZC.length=k*sz:=by rw[<-hZC,yG,hzl]
 have hst:=run_storeCells_at C.P bb o e ZC 0 cur w hh Wq1 (λu hu=>hz2 u (yF zs k Wq1 u bR));simp only[Nat.add_zero]at hst;have key:∃w',(Builtin.clear_ #[T] ty #[.slice (some ⟨bb,o,none⟩) k cc]).run C.P w= .ok (.tuple #[]) w'/\cY [bb] w w'/\w'.ownsRow 0 e sz (.slice (sA bb) n c) n xs:=by
  cases k with
  |zero=>
   refine⟨w,by simp[Builtin.clear_,run_underlying ht],cY.refl _ _,⟨hl0,.inr ⟨bb,c,cur,rfl,hg0,hh,hnc,hcm,hcs,htk⟩⟩⟩
  |succ k=>
   refine⟨w.setRow bb (cur.toList.take o++ZC++cur.toList.drop (o+ZC.length)).toArray,?_,⟨rfl,rfl,rfl,by simp_all,λj _ hj=>?_⟩,⟨hl0,.inr ⟨bb,c,(cur.toList.take o++ZC++cur.toList.drop (o+ZC.length)).toArray,rfl,hg0,?_,hnc,hcm,?_,?_⟩⟩⟩
   .simp_all [Builtin.clear_,Sem.run_bind,Result.andThen,run_underlying]
   .grind [World.setRow]
   .grind [World.setRow]
   .grind
   grind
 obtain⟨w',jP,hk,ho⟩:=key;have hr':(execOp a.eval ⟨d,.call {callee:= .builtin .clear,args:= #[x],argTypes:= #[T]},ty,pos,af,gd⟩).run C.P w= .ok (.value (.tuple #[])) w':=by
  simp[execOp,resolve,invoke,builtin,hf.ev hx,jP]
 unfold Oper.wp;rw[hr'];refine h _ _ _ ⟨rfl,rfl⟩ (hi.upd (hu _) w9 (kA w9 ho λa ha=>?_)) (λe=>by cases e)
 grind [bC.bs,ab]
end
theorem Fb{e sz n c i:Nat}{A:Option Addr}{xs:List Value}(hi:i<=n)(w:World)(h:(slv e sz A n c xs).ok w):(slv e sz A i c (xs.take (i*sz))).ok w:=by
 obtain⟨h1,h2⟩:=h;have hle:i*sz<=n*sz:=Nat.mul_le_mul_right _ hi;refine⟨by grind,?_⟩
 grind
section
variable {C:Cx} {Q:lS} {fr:Fr} {cs:List bC} {c:bC} {cin cin' rest r1:List bC}
theorem Inv.S0{w0 w:World}{S:List Nat}(h:Inv w0 S (bQ cin::rest) w)(hp:cin.Perm (c::cin')):Inv w0 S (c::bQ cin'::rest) w:=by
 obtain⟨_,_,h1⟩:=h.SX;have h2:Inv w0 S (cin'++(c::rest)) w:=h1.perm ((hp.append_right rest).trans List.perm_middle.symm);exact(Inv.Sy (F:=λ_:Unit=>cin') (hb:=λ_=>rfl) (p:=λ_=>True) () trivial h2).perm (List.Perm.swap ..)
theorem Inv.Tk{w0 w:World}{S:List Nat}(h:Inv w0 S (c::bQ cin::rest) w)(hp:cin'.Perm (c::cin)):Inv w0 S (bQ cin'::rest) w:=by
 obtain⟨_,_,h1⟩:=(h.perm (List.Perm.swap ..)).SX;have h2:Inv w0 S (cin'++rest) w:=h1.perm (List.perm_middle.trans ((hp.append_right rest).symm));exact Inv.Sy (F:=λ_:Unit=>cin') (hb:=λ_=>rfl) (p:=λ_=>True) () trivial h2
theorem Inv.Tj{w0 w:World}{S:List Nat}(h:Inv w0 S (bQ cin::rest) w)(hs:cin'.Sublist cin):Inv w0 S (bQ cin'::rest) w:=by
 obtain⟨_,_,h1⟩:=h.SX;exact Inv.Sy (F:=λ_:Unit=>cin') (hb:=λ_=>rfl) (p:=λ_=>True) () trivial (h1.drop (hs.append (aR _)))
theorem Dh{ops:Array Oper}{l:List Oper}(hd:Del cs (bQ cin) rest)(hp:cin.Perm (c::cin'))(h:WL C ops Q l fr (c::bQ cin'::rest)):WL C ops Q l fr cs:=λa w hf hi=>h a w hf ((hi.perm hd.perm).S0 hp)
theorem GB{ops:Array Oper}{l:List Oper}(hd:Del cs (bQ cin) r1)(hd2:Del r1 c rest)(hp:cin'.Perm (c::cin))(h:WL C ops Q l fr (bQ cin'::rest)):WL C ops Q l fr cs:=λa w hf hi=>h a w hf (((hi.perm (hd.perm.trans (hd2.perm.cons _))).perm (List.Perm.swap ..)).Tk hp)
theorem xm{ops:Array Oper}{l:List Oper}(hd:Del cs (bQ cin) rest)(hs:cin'.Sublist cin)(h:WL C ops Q l fr (bQ cin'::rest)):WL C ops Q l fr cs:=λa w hf hi=>h a w hf ((hi.perm hd.perm).Tj hs)
theorem Inv.joinGet{w0 w:World}{S:List Nat}(h:Inv w0 S cs w)(hh:Has cs (bQ cin))(hc:c∈cin):c.ok w:=jk (h.get hh) c hc
theorem Ctr.join{P:Program}{f:FuncId}{args:List Value}{w:World}{K:Value->List bC->Prop}(hi:Inv w (bD [bQ cin]) [bQ cin] w)(h:Inv w (bD cin) cin w->Ctr P f args w cin K):Ctr P f args w [bQ cin] (λv cs=>∃cs0,K v cs0/\cs=[bQ cs0]):=by
 have eb:∀c:List bC,bD [bQ c]=bD c:=λc=>by simp[bD,bQ,exC,bC.bs]
 have hi2:Inv w (bD cin) cin w:=by
  obtain⟨_,_,h1⟩:=hi.SX;rw[az,eb]at h1;exact h1
 refine Calls.mono (h hi2) λe w' hq=>?_
 obtain⟨v,cout,rfl,hk,hi3⟩:=hq;refine⟨v,[bQ cout],rfl,⟨cout,hk,rfl⟩,?_⟩;rw[eb];exact Inv.Sy (F:=λ_:Unit=>cout) (hb:=λ_=>rfl) (p:=λ_=>True) () trivial bR
end
def Ng(b:Nat)(L:List (Ky×Value))(j:Nat)(st:Nat)(w:World):Prop:=∃es clock,w.heap[b]? =some (.map es clock)/\Stamped es clock/\(es.toList.map λe=>(e.key,e.val))=(L.map λx=>(kyV x.1,x.2))/\(∀x,x∈L->lj x.1)/\∃e,es.toList[j]? =some e/\e.born=st
abbrev meC(b:Nat)(L:List (Ky×Value))(j:Nat)(st:Nat):bC:= .gen [b] (Ng b L j st)
 (λw w' h hk=>by obtain⟨es,cl,h1,h2⟩:=hk;exact⟨es,cl,(h b (by simp)).trans h1,h2⟩)
 (λw hk b' hb=>by obtain⟨es,cl,h1,_⟩:=hk;grind)
def vy(L:List (Ky×Value))(q:Ky)(z:Value):List (Ky×Value):=match cL (·.1) q L with|some _=>L|none=>L++[(q,z)]
def zK(L:List (Ky×Value))(q:Ky):Nat:=(cL (·.1) q L).getD L.length
section
variable {C:Cx} {fr:Fr} {cs:List bC} {d:Option Nat} {T k e:TypeId} {x y z:Operand} {ty:TypeId} {pos:String} {af:Array Edge} {gd:Option (Nat×Bool)} {g:Bool} {v zv:Value} {b j st:Nat} {L:List (Ky×Value)} {q:Ky} {mk:bC->List bC}
theorem NT(hx:ev fr x=some (.map (some b)))(hy:ev fr y=some (kyV q))(hq:lj q)(hT:C.P.underlying T=some (.map k e))(hK:sF C.P k)(hz:∀w,(zeroValue e).run C.P w= .ok zv w)(hu:At cs (mpc b L) mk):
  OpT C ⟨d,.mapEntry T x y,ty,pos,af,gd⟩ fr cs true (λu cs'=>∃st:Nat,u= .tuple #[ga L q zv,.i (st:Int)]/\cs'=mk (meC b (vy L q zv) (zK L q) st)):=λa w hf hi next Q h=>by
 obtain⟨es,clock,hb,hs,hL,hok⟩:=(show nR b L w from hi.get hu.has);obtain⟨lq,hlq⟩:=hK.at_ q hq;have key:∃w' st,(Instr.mapEntry T (.map (some b)) (kyV q)).run C.P w= .ok (.tuple #[ga L q zv,.i ((st:Nat):Int)]) w'/\cY [b] w w'/\Ng b (vy L q zv) (zK L q) st w':=by
  rcases sq hK hs hL hok hq w with⟨h1,h2,h3⟩|⟨j,e0,h1,h2,h3,h4,h5⟩
  .refine⟨setBlock w b (.map (es.push ⟨kyV q,zv,clock⟩) (clock+1)),clock,?_,gm hb,_,_,(heap_set hb).1,stamped_push hs h3,?_,?_,?_⟩
   .rw[vf h1];simp[Instr.mapEntry,run_underlying hT,MapKept.run_getObj_map hb,hK.K.check w false hlq,h2,hz,MapKept.run_setObj_map _ hb,Result.andThen,setBlock,goInt]
   .grind [vy]
   .grind [vy]
   have e1:L.length=es.toList.length:=by have:=congrArg List.length hL;simpa using this.symm
   simp_all [kyV,zK]
  have hj:es[j]? =some e0:=by simpa using h3
  have hkeyf:∀e',es[j]? =some e'->({e' with key:=kyV q}:MapEntry).key=e'.key:=λe' he'=>by grind
  have hset:(es.modify j λe'=>{e' with key:=kyV q}).toList=es.toList.set j {e0 with key:=kyV q}:=by rw[Array.toList_modify,ChangeMaps.modify_eq_set _ _ _ _ h3]
  refine⟨setBlock w b (.map (es.modify j λe'=>{e' with key:=kyV q}) clock),e0.born,?_,gm hb,_,_,(heap_set hb).1,stamped_modify hs _ _ (λ_ _=>rfl) (λe' _ he'=>hkeyf e' he'),?_,?_,?_⟩
  .rw[rF h1 h5];simp[Instr.mapEntry,run_underlying hT,MapKept.run_getObj_map hb,hK.K.check w false hlq,h2,hj,h4,hK.K.stays w hlq,MapKept.run_setObj_map _ hb,Result.andThen,setBlock,goInt]
  .unfold vy;rw[h1,hset,List.map_set,hL];dsimp only;have h6:(L.map λx=>(kyV x.1,x.2))[j]? =some (kyV q,e0.val):=by rw[aW,h5];rfl
   apply List.ext_getElem?
   grind
  .grind [vy]
  grind [kyV,zK]
 obtain⟨w',st,h1,h2,h3⟩:=key;unfold Oper.wp;have hr:(execOp a.eval ⟨d,.mapEntry T x y,ty,pos,af,gd⟩).run C.P w= .ok (.value (.tuple #[ga L q zv,.i (st:Int)])) w':=by simp[execOp,hf.ev hx,hf.ev hy,h1]
 rw[hr];exact h _ _ _ ⟨st,rfl,rfl⟩ (hi.upd (hu _) h2 (lm h2 (by simp[bC.bs]) h3 (λb hb=>Or.inl hb))) (λe=>by cases e)
theorem JL{v0:Value}(hj:L[j]? =some (q,v0))(hx:ev fr x=some (.map (some b)))(hy:ev fr y=some (.i (st:Int)))(hz:ev fr z=some v)(hu:At cs (meC b L j st) mk):
  OpT C ⟨d,.entryStore T x y z,ty,pos,af,gd⟩ fr cs true (λu cs'=>u=undef/\cs'=mk (mpc b (L.set j (q,v)))):=λa w hf hi next Q h=>by
 obtain⟨es,clock,hb,hs,hL,hok,e0,he0,rfl⟩:=(show Ng b L j st w from hi.get hu.has);have hji:es[j]? =some e0:=by simpa using he0
 have hf0:es.findIdx? (λe=>((e.born:Nat):Int)==(e0.born:Int))=some j:=by
  rw[Array.findIdx?_eq_some_iff_getElem];obtain⟨hjl,hje⟩:=Array.getElem?_eq_some_iff.1 hji;refine⟨hjl,by simp[hje],λi hi=>?_⟩;simp only[Bool.not_eq_true,beq_eq_false_iff_ne,ne_eq];intro hbe;have hil:i<es.size:=by omega
  have e1:es[i]=e0:=born_inj hs.2.1 cH (ak he0) Wq1;have e2:es.toList[i]? =some e0:=by simp[hil,e1]
  have:=oE hs e2 he0 rfl;omega
 have jP:(Instr.entryStore T (.map (some b)) (.i (e0.born:Int)) v).run C.P w= .ok () (setBlock w b (.map (es.modify j λe=>{e with val:=v}) clock)):=by
  have h0:(asInt (Value.i (e0.born:Int))).run C.P w= .ok (e0.born:Int) w:=rfl;simp[Instr.entryStore,MapKept.run_getObj_map hb,h0,hf0,MapKept.run_setObj_map _ hb,Result.andThen,setBlock]
 have hset:(es.modify j λe=>{e with val:=v}).toList=es.toList.set j {e0 with val:=v}:=by rw[Array.toList_modify,ChangeMaps.modify_eq_set _ _ _ _ he0]
 have hm:nR b (L.set j (q,v)) (setBlock w b (.map (es.modify j λe=>{e with val:=v}) clock)):=by
  refine⟨_,clock,(heap_set hb).1,stamped_modify hs _ _ (λ_ _=>rfl) (λ_ _ _=>rfl),?_,?_⟩
  .grind [es_at,List.map_set]
  grind
 have hr:(execOp a.eval ⟨d,.entryStore T x y z,ty,pos,af,gd⟩).run C.P w= .ok .skip (setBlock w b (.map (es.modify j λe=>{e with val:=v}) clock)):=by simp[execOp,hf.ev hx,hf.ev hy,hf.ev hz,jP]
 unfold Oper.wp;rw[hr];exact h _ _ _ ⟨rfl,rfl⟩ (hi.upd (hu _) (gm hb) (lm (gm hb) (by simp[bC.bs]) hm (λb hb=>Or.inl hb))) (λe=>by cases e)
end
end
end
theorem Q4{a:Int}(h:0<=a/\a<=4294967295):(Lit.int .u32 a).wf=true:=by
 have h1:IntKind.u32.min=0:=by decide
 have h2:IntKind.u32.max=4294967295:=by decide
 simp[Lit.wf,h1,h2];omega
theorem vN{P:Program}{d:Nat}{t:TypeId}{a:Int}(ht:P.underlying t=some (.int .u32))(ha:(Lit.int .u32 a).wf=true):P.keyLits (d+1) t [.w a]=some [.w a]:=by
 simp[Program.keyLits,ht,ha]
theorem Ea{P:Program}{d:Nat}{k:TypeId}{f1 f2:Field}{a b:Int}(hk:P.underlying k=some (.struct #[f1,f2]))(hc:P.cellsOf k=2)(hn:(#[f1,f2]:Array Field).all (·.name != "_")=true)
  (h1:P.underlying f1.type=some (.int .u32)) (h2:P.underlying f2.type=some (.int .u32)) (o1:f1.offset=0) (o2:f2.offset=1) (c1:P.cellsOf f1.type=1) (c2:P.cellsOf f2.type=1) (ha:(Lit.int .u32 a).wf=true) (hb:(Lit.int .u32 b).wf=true):
  P.keyLits (d+2) k [.w a,.w b]=some [.w a,.w b]:=by
 unfold Program.keyLits;rw[hk];have e1:[Value.w a,.w b].length=P.cellsOf k/\(#[f1,f2]:Array Field).all (·.name != "_")=true:=⟨by rw[hc];rfl,hn⟩;show(if _ then _ else none)=_;rw[if_pos e1];show((([f1,f2]:List Field).mapM λf=>P.keyLits (d+1) f.type (([Value.w a,.w b].drop f.offset).take (P.cellsOf f.type))).map List.flatten)=_;simp only[List.mapM_cons,List.mapM_nil,o1,o2,c1,c2,List.drop_zero,List.drop_succ_cons,List.take_succ_cons,List.take_zero,vN h1 ha,vN h2 hb,Option.bind_eq_bind,Option.bind_some,Option.pure_def,Option.map_some]
 rfl
theorem Ld{P:Program}{n:Nat}{k:TypeId}{f1 f2:Field}{q:Ky}(hs:P.types.size=n+1)(hk:P.underlying k=some (.struct #[f1,f2]))(hkt:P.keyType k=true)(hf:(kyV q).formed P k=true)(hc:P.cellsOf k=2)(hn:(#[f1,f2]:Array Field).all (·.name != "_")=true)
  (h1:P.underlying f1.type=some (.int .u32)) (h2:P.underlying f2.type=some (.int .u32)) (o1:f1.offset=0) (o2:f2.offset=1) (c1:P.cellsOf f1.type=1) (c2:P.cellsOf f2.type=1) (hq:lj q):∃l,keyOf P k (kyV q)=some l:=by
 refine⟨.string (keyBytes [.w q.1,.w q.2]),?_⟩;unfold keyOf;rw[hk];show(if _ then _ else none)=_;rw[if_pos (by rw[hkt,hf];rfl),hs];show(P.keyLits (n+2) k [.w q.1,.w q.2]).map _=_;rw[Ea hk hc hn h1 h2 o1 o2 c1 c2 (Q4 hq.1) (Q4 hq.2)]
 rfl
def RF(P:Program)(k:Nat)(T:TypeId)(a b:Value)(r:Bool):Prop:=∀w:World,(Op.equalIn k T a b).run P w= .ok r w
def QS(P:Program)(k:Nat)(xs ys:Array Value)(fs:List Field)(r:Bool):Prop:=∀w:World,(Op.eqFields k xs ys fs).run P w= .ok r w
section
variable {P:Program} {k:Nat} {T:TypeId}
theorem QS.nil{xs ys:Array Value}:QS P k xs ys [] true:=λw=>rfl
theorem QS.cons{xs ys:Array Value}{f:Field}{fs:List Field}{a b:Value}{r1 r2:Bool}(hn:f.name≠ "_")(ha:∀w,(part f.type xs f.offset).run P w= .ok a w)(hb:∀w,(part f.type ys f.offset).run P w= .ok b w)(he:RF P k f.type a b r1)(h:QS P k xs ys fs r2):QS P k xs ys (f::fs) (r1&&r2):=λw=>by
 cases r1 with
 |true=>
  simp only[Op.eqFields,if_pos hn,Sem.run_bind,ha w,hb w,Result.andThen_ok,he w,Bool.not_true,Bool.false_eq_true,if_false];exact h w
 |false=>simp[Op.eqFields,if_pos hn,Sem.run_bind,ha w,hb w,Result.andThen_ok,he w]
theorem RF.int{kd kd':IntKind}{a b:Int}(h:P.underlying T=some (.int kd')):RF P (k+1) T (.int kd a) (.int kd b) (a==b):=λw=>by
 rw[run_equalIn_int w k T kd kd' a b h]
theorem RF.struct{xs ys:Array Value}{r:Bool}(h:P.underlying T=some (.struct (P.fieldsOf T)))(hp:P.stoodInHeld T=false)(hf:QS P k xs ys (P.fieldsOf T).toList r):RF P (k+1) T (.agg xs) (.agg ys) r:=λw=>by
 rw[run_equalIn_struct w k T xs ys h hp];exact hf w
end
section
variable {C:Cx} {fr:Fr} {d:Option Nat} {T T':TypeId} {x y:Operand} {ty:TypeId} {pos:String} {af:Array Edge} {gd:Option (Nat×Bool)} {g r:Bool}
theorem I7{xs ys:Array Value}(hm:C.P.eqGuardType C.P.depth T=false)(he:RF C.P 10000 T (.agg xs) (.agg ys) r)(hx:Ev fr g x (.agg xs))(hy:Ev fr g y (.agg ys)):OpY C ⟨d,.binOp .eql T x y T',ty,pos,af,gd⟩ fr g Any (.bool r):=λA w hf _ hg=>by
 simp[execOp,hx.eval hf hg,hy.eval hf hg,run_eqGuard_agg w _ _ _ _ _ _ hm,run_eql_struct,he w,Result.andThen]
end
theorem D9(p q:Ky):RF prog 10000 164 (.agg #[.w p.1,.w p.2]) (.agg #[.w q.1,.w q.2]) (p==q):=by
 have h:RF prog 10000 164 (.agg #[.w p.1,.w p.2]) (.agg #[.w q.1,.w q.2]) ((p.1==q.1)&&((p.2==q.2)&&true)):=
  .struct rfl kL (QS.cons Wq7 Zrf Zrf (.int rfl) (QS.cons Wq7 Zrf Zrf (.int rfl) QS.nil))
 rw[Bool.and_true]at h;exact h
theorem vM:prog.eqGuardType prog.depth 164=false:=by kernel_rfl
theorem Pe:∃f1 f2:Field,prog.underlying 164=some (.struct #[f1,f2])/\(#[f1,f2]:Array Field).all (·.name != "_")=true/\prog.underlying f1.type=some (.int .u32)/\prog.underlying f2.type=some (.int .u32)/\f1.offset=0/\f2.offset=1/\prog.cellsOf f1.type=1/\prog.cellsOf f2.type=1:=
 ⟨_,_,rfl,by kernel_rfl,rfl,rfl,rfl,rfl,by kernel_rfl,by kernel_rfl⟩
theorem keyKind:prog.keyType 164=true:=by kernel_rfl
theorem FO:prog.cellsOf 164=2:=by kernel_rfl
theorem Rj:(164:TypeId)<prog.types.size:=of_decide_eq_true kL
theorem keyWide:(match prog.underlying 164 with|some (.array _ _)|some (.struct _)=>true|_=>false)=true:=by kernel_rfl
theorem D8:sF prog 164:=by
 refine⟨Maps.Keyed.of_law (deep_law_laid vJ (m:=2) Wq1 Rj kL keyWide),λq hq=>?_⟩;obtain⟨f1,f2,hu,h1,h2,h3,h4,h5,h6,h7⟩:=Pe;obtain⟨n,hn⟩:∃n,prog.types.size=n+1:=⟨prog.types.size - 1,by have:(164:Nat)<prog.types.size:=Rj;omega⟩;exact Ld hn hu keyKind (by simp[kyV,Value.formed,hu,FO]) FO h1 h2 h3 h4 h5 h6 h7 hq
end Go.Ink
