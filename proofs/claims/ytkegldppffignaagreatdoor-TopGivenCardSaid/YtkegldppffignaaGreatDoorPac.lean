/- Lemmas. -/
import Derived.Test.YtkegldppffignaaGreatDoorPaa
import Derived.Test.YtkegldppffignaaGreatDoorPab
import Derived.Test.YtkegldppffignaaGreatDoorProg
import Derived.Test.YtkegldppffignaaGreatDoorRows
import Derived.Maps.Range
import Derived.DeepKeys4
import Derived.Carry
set_option linter.unusedSimpArgs false
set_option linter.unusedVariables false
set_option maxRecDepth 100000
set_option maxHeartbeats 4000000
namespace Go.Ink
open Go.RowKit
structure St where
 pc:Int
 d:List Int
 r:List Int
 flags:Int
 MQ:Bool
 MU:Bool
 ie:Bool
 root:Int
 vec:Int
 epc:Int
 MR:Int
 addr:Int
 M1:Bool
 eie:Bool
 count:Int
 halted:Bool
abbrev St.cells(s:St)(dv rv:Value):List Value:=
 [.int .u32 s.pc,dv,rv,.int .u32 s.flags,.bool s.MQ,.bool s.MU,.bool s.ie,.int .u32 s.root,.int .u32 s.vec,.int .u32 s.epc,.int .u32 s.MR,.int .u32 s.addr,.bool s.M1,.bool s.eie,.int .u64 s.count,.bool s.halted]
def b2i(b:Bool):Int:=bif b then 1 else 0
def kM(n lo hi:Int):Int:=lo+n%(hi - lo+1)
def St.zero:St:=⟨0,[],[],0,false,false,false,0,0,0,0,0,false,false,0,false⟩
def St.new:St:={St.zero with MQ:=true}
def St.M3(s:St)(MR addr:Int):St:=
 {s with epc:=s.pc,MR:=IntKind.u32.wrap MR,addr:=addr,M1:=s.MQ,eie:=s.ie,MQ:=true,ie:=false,pc:=s.vec}
def St.back(s:St):St:={s with pc:=s.epc,MQ:=s.M1,ie:=s.eie}
def St.get(s:St)(reg:Int):Int×Bool:=
 bif reg==0 then(b2i s.ie,true)else bif reg==1 then(b2i s.MU,true)else bif reg==2 then(s.root,true)else bif reg==3 then(s.vec,true)else bif reg==4 then(s.epc,true)else
 bif reg==5 then(s.MR,true)else bif reg==6 then(s.addr,true)else bif reg==7 then(b2i s.M1,true)else bif reg==8 then(b2i s.eie,true)else bif reg==9 then(IntKind.u32.wrap s.count,true)else
 bif reg==10 then(s.flags,true)else(0,false)
def St.set(s:St)(reg v:Int):St×Bool:=
 bif reg==0 then({s with ie:=v !=0},true)else bif reg==1 then({s with MU:=v !=0},true)else bif reg==2 then({s with root:=bits .andNot .u32 v 63},true)else bif reg==3 then({s with vec:=v},true)else
 bif reg==4 then({s with epc:=v},true)else bif reg==5 then({s with MR:=v},true)else bif reg==6 then({s with addr:=v},true)else bif reg==7 then({s with M1:=v !=0},true)else bif reg==8 then({s with eie:=v !=0},true)else
 bif reg==10 then({s with flags:=bits .and .u32 v 15},true)else(s,false)
def St.same(a b:St):Bool:=
 (((a.d==b.d)&&(a.r==b.r))&&((((((((a.pc==b.pc)&&(a.flags==b.flags))&&(a.MQ==b.MQ))&&(a.MU==b.MU))&&(a.ie==b.ie))&&(a.root==b.root))&&(a.vec==b.vec)))&&(((((a.epc==b.epc)&&(a.MR==b.MR))&&(a.addr==b.addr))&&(a.M1==b.M1))&&(a.eie==b.eie)))&&(a.count==b.count)&&(a.halted==b.halted)
def St.right(s:St):Bool:=decide ((s.d.length:Int)<=16)&&decide ((s.r.length:Int)<=16)&&decide (s.flags<=15)
def u32(x:Int):Prop:=0<=x/\x<=4294967295
def u8s(l:List Int):Prop:=∀x,x∈l->0<=x/\x<=255
structure St.wf(s:St):Prop where
 pc:u32 s.pc
 flags:u32 s.flags
 root:u32 s.root
 vec:u32 s.vec
 epc:u32 s.epc
 MR:u32 s.MR
 addr:u32 s.addr
 count:0<=s.count/\s.count<=18446744073709551615
 d:∀x,x∈s.d->u32 x
 r:∀x,x∈s.r->u32 x
end Go.Ink
namespace Go.Proofs.YtkegldppffignaaGreatDoor
open Go.RowKit Go.Ink Go.Proofs.Tryz
attribute [local irreducible] OpY bS
theorem pz(b:Bool)(w:World):Ctr prog 237 [.bool b] w [] (λv cs=>v= .int .u32 (b2i b)/\cs=[]):=by
 refine bN func237 rfl ntmps237 rfl (Inv.start w) ?_;refine fE ?_;refine ZW ?_ ?_<;>intro hc1
 .subst hc1;refine Z_7 ?_;refine Zra ?_;exact de
 subst hc1;refine fX ?_;exact de
theorem kr(n lo hi:Int)(w:World)(h0:0<=lo)(h1:lo<=hi)(h2:hi<=1000000000000):Ctr prog 15 [.int .i64 n,.int .i64 lo,.int .i64 hi] w [] (λv cs=>v= .int .i64 (kM n lo hi)/\cs=[]):=by
 obtain⟨m,hm⟩:∃m,m=hi - lo+1:=⟨_,rfl⟩;obtain⟨t,ht⟩:∃t,t=n.tmod m:=⟨_,rfl⟩;have e1:t<m:=by rw[ht];exact Int.tmod_lt_of_pos _ Wq1
 have e2: - m<t:=by
  have:=Int.tmod_lt_of_pos (-n) (b:=m) Wq1;rw[Int.neg_tmod]at this;omega
 have e3:t%m=n%m:=by
  rw[ht,Int.tmod_eq_emod];split
  .simp
  rw[Int.natAbs_of_nonneg Wq1];simp
 rw[hm]at ht e1 e2;refine bN func15 rfl ntmps15 rfl (Inv.start w) ?_;refine dS ?_;refine Zy (eE Zv0 Zv0 Zl) ?_;refine Zy (df Zv0 Zv0 Zl) ?_;refine Zy (ij (Zv rfl) (Zv rfl) Wq1 (show _=t from by rw[ht])) ?_;refine dS ?_;refine ZW ?_ ?_<;>intro hc2
 .refine Z_3 ?_;refine Zy (df Zv0 Zv0 Zl) ?_;refine ZA ?_;refine Zy (eE Zv0 Zv0 Zl) ?_;refine Zy (df Zv0 Zv0 Zl) ?_;refine Z_7 ?_;refine Zy (df Zv0 Zv0 Zl) ?_;refine Z_4 ?_;refine Zra ?_;simp only[aj]at hc2;refine⟨congrArg _ ?_,rfl⟩;unfold kM;rw[<-hm,<-e3];have e4:(t+m)%m=t%m:=by simp
  rw[<-e4,Int.emod_eq_of_lt Wq1 Wq1];omega
 refine Z_6 ?_;refine Zy (df Zv0 Zv0 Zl) ?_;refine Z_4 ?_;refine Zra ?_;simp only[ah]at hc2;refine⟨congrArg _ ?_,rfl⟩;unfold kM;rw[<-hm,<-e3,Int.emod_eq_of_lt Wq1 Wq1]
theorem CJ(A:Option Addr)(n c:Nat)(xs:List Int)(w:World)(h:Rd w .u32 A n c xs)(hn:n*4<=140737488355328):Ctr prog 80 [.slice A n c] w [] (λv cs=>∃A' c',v= .slice A' n c'/\cs=[sl .u32 25 A' n c' xs]):=by
 refine bN func80 rfl ntmps80 rfl (Inv.start w) ?_;refine gR ?_;refine ZW ?_ ?_<;>intro hc1
 .obtain rfl:A=none:=by simpa using hc1
  obtain⟨rfl,rfl⟩:=h.nil rfl;obtain rfl:xs=[]:=by have:=h.len;simpa[ints]using this
  refine Z_2 ?_;refine dC 25 1 ?_;refine Z_5 ?_;refine Zrb ([slv _ _ _ _ _ _]) ?_;exact⟨_,_,rfl,rfl⟩
 refine Z_4 ?_;refine jO ?_;rintro _ _ ⟨b5,rfl,rfl⟩;refine ZA ?_;refine gj (cD (e:=25) (sz:=1) (bytes:=4) rfl rfl Za rfl rfl (λw hi=>h.MZ hi) cN gS Wq1) rfl ?_;rintro _ _ ⟨A',c',rfl,rfl⟩;simp only[bE,aO];refine Z_4 ?_;refine Zrb ([slv _ _ _ _ _ _]) ?_;exact⟨_,_,rfl,rfl⟩
structure oJ(w:World)(s:St)(Ad Ar:Option Addr)(cd cr:Nat):Prop where
 d:Rd w .u32 Ad s.d.length cd s.d
 r:Rd w .u32 Ar s.r.length cr s.r
 hd:s.d.length*4<=140737488355328
 hr:s.r.length*4<=140737488355328
theorem oJ.MZ{w0 w:World}{cs:List bL}{s:St}{Ad Ar:Option Addr}{cd cr:Nat}(h:oJ w0 s Ad Ar cd cr)(hi:Inv w0 [] cs w):oJ w s Ad Ar cd cr:=⟨h.d.MZ hi,h.r.MZ hi,h.hd,h.hr⟩
abbrev sv(s:St)(Ad:Option Addr)(cd:Nat)(Ar:Option Addr)(cr:Nat):Value:= .agg (s.cells (.slice Ad s.d.length cd) (.slice Ar s.r.length cr)).toArray
abbrev slD(s:St)(A:Option Addr)(c:Nat):bL:=sl .u32 25 A s.d.length c s.d
abbrev slR(s:St)(A:Option Addr)(c:Nat):bL:=sl .u32 25 A s.r.length c s.r
def LX(s:St)(v:Value)(cs:List bL):Prop:=∃Ad cd Ar cr,v=sv s Ad cd Ar cr/\cs=[slD s Ad cd,slR s Ar cr]
theorem _root_.Go.Ink.Inv.NM{w0 w:World}{S:List Nat}{cs:List bL}{s:St}{Ad Ar:Option Addr}{cd cr:Nat}(hi:Inv w0 S cs w)(h1:Has cs (slD s Ad cd))(h2:Has cs (slR s Ar cr))(hd:s.d.length*4<=140737488355328)(hr:s.r.length*4<=140737488355328):oJ w s Ad Ar cd cr:=
 ⟨hi.rd h1,hi.rd h2,hd,hr⟩
theorem jv(s:St)(Ad Ar:Option Addr)(cd cr:Nat)(w:World)(h:oJ w s Ad Ar cd cr):Ctr prog 48 [sv s Ad cd Ar cr] w [] (LX s):=by
 refine bN func48 rfl ntmps48 rfl (Inv.start w) ?_;refine Z_2 ?_;refine ZO λb1=>?_;refine ZN λb2=>?_
 refine Z_3 ?_;refine bU ⟨λj=>List.elem j [7,9],[]⟩ Zk ?_;refine ZFe 0 1 ?_;refine ZG 1 ?_;refine ZFe 3 2 ?_;refine ZG 4 ?_;refine cn 2 Zk ?_;refine ZT (λw hi=>CJ Ad _ cd s.d w (h.d.MZ hi) h.hd) ?_;rintro _ _ ⟨_,⟨A1,c1,rfl,rfl⟩,rfl⟩;refine ZFe 6 1 ?_;refine cn 5 Zk ?_;refine ZT (λw hi=>CJ Ar _ cr s.r w (h.r.MZ hi) h.hr) ?_;rintro _ _ ⟨_,⟨A2,c2,rfl,rfl⟩,rfl⟩;refine cn 7 Zk ?_;refine ZQ ?_;refine ZFe 8 2 ?_;refine cn 9 Zk ?_;refine ZQ ?_;refine dx ?_;refine Z_4 ?_;refine ZM ?_;refine Z_3 ?_;refine mi (cs':=[slv _ _ _ _ _ _,slv _ _ _ _ _ _]) (.inl rfl) Zu rfl rfl Zh Zrf Zrf ?_;exact⟨_,_,_,_,rfl,rfl⟩
theorem qb(s:St)(Ad Ar:Option Addr)(cd cr:Nat)(MR addr:Int)(w:World)(h:oJ w s Ad Ar cd cr):Ctr prog 125 [sv s Ad cd Ar cr,.int .i64 MR,.int .u32 addr] w [] (LX (s.M3 MR addr)):=by
 refine bN func125 rfl ntmps125 rfl (Inv.start w) ?_;refine Z_2 ?_;refine ZO λb3=>?_;refine ZN λb6=>?_
 refine Z_5 ?_;refine ZS (λw hi=>jv s Ad Ar cd cr w (h.MZ hi)) ?_;rintro _ _ ⟨_,⟨A1,c1,A2,c2,rfl,rfl⟩,rfl⟩;refine ZM ?_;refine Z_7 ?_;refine Zy (ce rfl rfl Zv0 rfl) ?_;refine Z_6 ?_;refine ZL ?_;refine Z_1 ?_;refine ZL ?_;refine Z_1 ?_;refine ZL ?_;refine Z_1 ?_;refine ZL ?_;refine Z_1 ?_;refine ZL ?_;refine Z_7 ?_;refine ZL ?_;refine Z_1 ?_;refine ZL ?_;refine Z_1 ?_;refine ZL ?_;refine Z_5 ?_;refine ZM ?_;refine Z_3 ?_;refine mi (cs':=[slv _ _ _ _ _ _,slv _ _ _ _ _ _]) (.inl rfl) Zu rfl rfl Zh Zrf Zrf ?_;exact⟨_,_,_,_,rfl,rfl⟩
theorem Gc(s:St)(Ad Ar:Option Addr)(cd cr:Nat)(w:World)(h:oJ w s Ad Ar cd cr):Ctr prog 203 [sv s Ad cd Ar cr] w [] (LX s.back):=by
 refine bN func203 rfl ntmps203 rfl (Inv.start w) ?_;refine Z_2 ?_;refine ZO λb1=>?_;refine ZN λb2=>?_
 refine Z_5 ?_;refine ZS (λw hi=>jv s Ad Ar cd cr w (h.MZ hi)) ?_;rintro _ _ ⟨_,⟨A1,c1,A2,c2,rfl,rfl⟩,rfl⟩;refine ZM ?_;refine fE ?_;refine ZL ?_;refine Z_1 ?_;refine ZL ?_;refine Z_1 ?_;refine ZL ?_;refine Z_5 ?_;refine ZM ?_;refine Z_3 ?_;refine mi (cs':=[slv _ _ _ _ _ _,slv _ _ _ _ _ _]) (.inl rfl) Zu rfl rfl Zh Zrf Zrf ?_;exact⟨_,_,_,_,rfl,rfl⟩
theorem N8(w:World):Ctr prog 55 [] w [] (λv cs=>v=sv St.new none 0 none 0/\cs=[]):=by
 refine bN func55 rfl ntmps55 rfl (Inv.start w) ?_;refine Z_2 ?_;refine ZN λb0=>?_;refine Z_5 ?_;refine ZM ?_;refine Z_3 ?_;refine mi (cs':=[]) (.inl rfl) Zu rfl rfl Zh Zrf Zrf ?_;exact de
theorem Mv(s:St)(dv rv:Value)(reg:Int)(w:World):Ctr prog 191 [.agg (s.cells dv rv).toArray,.int .i64 reg] w [] (λv cs=>v= .tuple #[.int .u32 (s.get reg).1,.bool (s.get reg).2]/\cs=[]):=by
 refine bN func191 rfl ntmps191 rfl (Inv.start w) ?_;refine Z_2 ?_;refine ZO λb2=>?_;refine xF ?_;refine ZW ?_ ?_<;>intro hc2
 .refine Z_4 ?_;refine ZSe (λw hi=>pz _ w) ?_;refine Z_7 ?_;refine i9 ?_;refine⟨?_,rfl⟩;simp only[St.get, *,ac,aa]
 refine Z_6 ?_;refine ZW ?_ ?_<;>intro hc4
 .refine Z_4 ?_;refine ZSe (λw hi=>pz _ w) ?_;refine Z_7 ?_;refine i9 ?_;refine⟨?_,rfl⟩;simp only[St.get, *,ac,aa]
 refine Z_6 ?_;refine ZW ?_ ?_<;>intro hc6
 .refine fE ?_;refine i9 ?_;refine⟨?_,rfl⟩;simp only[St.get, *,ac,aa]
 refine Z_6 ?_;refine ZW ?_ ?_<;>intro hc8
 .refine fE ?_;refine i9 ?_;refine⟨?_,rfl⟩;simp only[St.get, *,ac,aa]
 refine Z_6 ?_;refine ZW ?_ ?_<;>intro hc10
 .refine fE ?_;refine i9 ?_;refine⟨?_,rfl⟩;simp only[St.get, *,ac,aa]
 refine Z_6 ?_;refine ZW ?_ ?_<;>intro hc12
 .refine fE ?_;refine i9 ?_;refine⟨?_,rfl⟩;simp only[St.get, *,ac,aa]
 refine Z_6 ?_;refine ZW ?_ ?_<;>intro hc14
 .refine fE ?_;refine i9 ?_;refine⟨?_,rfl⟩;simp only[St.get, *,ac,aa]
 refine Z_6 ?_;refine ZW ?_ ?_<;>intro hc16
 .refine Z_4 ?_;refine ZSe (λw hi=>pz _ w) ?_;refine Z_7 ?_;refine i9 ?_;refine⟨?_,rfl⟩;simp only[St.get, *,ac,aa]
 refine Z_6 ?_;refine ZW ?_ ?_<;>intro hc18
 .refine Z_4 ?_;refine ZSe (λw hi=>pz _ w) ?_;refine Z_7 ?_;refine i9 ?_;refine⟨?_,rfl⟩;simp only[St.get, *,ac,aa]
 refine Z_6 ?_;refine ZW ?_ ?_<;>intro hc20
 .refine Z_4 ?_;refine Zy (ce rfl rfl Zv0 rfl) ?_;refine Z_7 ?_;refine i9 ?_;refine⟨?_,rfl⟩;simp only[St.get, *,ac,aa]
 refine Z_6 ?_;refine ZW ?_ ?_<;>intro hc22
 .refine fE ?_;refine i9 ?_;refine⟨?_,rfl⟩;simp only[St.get, *,ac,aa]
 refine dS ?_;refine i9 ?_;refine⟨?_,rfl⟩;simp only[St.get, *,ac,aa]
theorem Mc(s:St)(Ad Ar:Option Addr)(cd cr:Nat)(reg v:Int)(w:World)(h:oJ w s Ad Ar cd cr):Ctr prog 192 [sv s Ad cd Ar cr,.int .i64 reg,.int .u32 v] w []
  (λx cs=>∃Ad' cd' Ar' cr',x= .tuple #[sv (s.set reg v).1 Ad' cd' Ar' cr',.bool (s.set reg v).2]/\cs=[slD s Ad' cd',slR s Ar' cr']):=by
 refine bN func192 rfl ntmps192 rfl (Inv.start w) ?_;refine Z_2 ?_;refine ZO λb3=>?_;refine ZN λb6=>?_
 refine Z_6 ?_;refine ZS (λw hi=>jv s Ad Ar cd cr w (h.MZ hi)) ?_;rintro _ _ ⟨_,⟨A1,c1,A2,c2,rfl,rfl⟩,rfl⟩;refine ZM ?_;refine rj ?_;refine ZW ?_ ?_<;>intro hc4
 .refine Z_4 ?_;refine Jf ?_;refine⟨A1,c1,A2,c2,?_,rfl⟩;clear h;simp only[St.set, *,ac,aa]
 refine Z_6 ?_;refine ZW ?_ ?_<;>intro hc6
 .refine Z_4 ?_;refine Jf ?_;refine⟨A1,c1,A2,c2,?_,rfl⟩;clear h;simp only[St.set, *,ac,aa]
 refine Z_6 ?_;refine ZW ?_ ?_<;>intro hc8
 .refine Z_2 ?_;refine Zy (rF Zv0 Zv0 rfl) ?_;refine Z_1 ?_;refine Jf ?_;refine⟨A1,c1,A2,c2,?_,rfl⟩;clear h;simp only[St.set, *,ac,aa]
 refine Z_6 ?_;refine ZW ?_ ?_<;>intro hc10
 .refine Z_3 ?_;refine Jf ?_;refine⟨A1,c1,A2,c2,?_,rfl⟩;clear h;simp only[St.set, *,ac,aa]
 refine Z_6 ?_;refine ZW ?_ ?_<;>intro hc12
 .refine Z_3 ?_;refine Jf ?_;refine⟨A1,c1,A2,c2,?_,rfl⟩;clear h;simp only[St.set, *,ac,aa]
 refine Z_6 ?_;refine ZW ?_ ?_<;>intro hc14
 .refine Z_3 ?_;refine Jf ?_;refine⟨A1,c1,A2,c2,?_,rfl⟩;clear h;simp only[St.set, *,ac,aa]
 refine Z_6 ?_;refine ZW ?_ ?_<;>intro hc16
 .refine Z_3 ?_;refine Jf ?_;refine⟨A1,c1,A2,c2,?_,rfl⟩;clear h;simp only[St.set, *,ac,aa]
 refine Z_6 ?_;refine ZW ?_ ?_<;>intro hc18
 .refine Z_4 ?_;refine Jf ?_;refine⟨A1,c1,A2,c2,?_,rfl⟩;clear h;simp only[St.set, *,ac,aa]
 refine Z_6 ?_;refine ZW ?_ ?_<;>intro hc20
 .refine Z_4 ?_;refine Jf ?_;refine⟨A1,c1,A2,c2,?_,rfl⟩;clear h;simp only[St.set, *,ac,aa]
 refine Z_6 ?_;refine ZW ?_ ?_<;>intro hc22
 .refine Z_4 ?_;refine Jf ?_;refine⟨A1,c1,A2,c2,?_,rfl⟩;clear h;simp only[St.set, *,ac,aa]
 refine Z_3 ?_;refine ZM ?_;refine Z_6 ?_;refine lS (cs':=[slv _ _ _ _ _ _,slv _ _ _ _ _ _]) (.inl rfl) Zu rfl rfl rfl Zh Zrf Zrf ?_;refine⟨A1,c1,A2,c2,?_,rfl⟩;clear h;simp only[St.set, *,ac,aa]
theorem nF(s:St)(Ad Ar:Option Addr)(cd cr:Nat)(w:World):Ctr prog 77 [sv s Ad cd Ar cr] w [] (λv cs=>v= .bool s.right/\cs=[]):=by
 refine bN func77 rfl ntmps77 rfl (Inv.start w) ?_;refine Z_2 ?_;refine ZO λb1=>?_;refine mn ?_;refine Z_4 ?_;refine Zra ?_;exact de
theorem BU(A A2:Option Addr)(c c2:Nat)(xs ys:List Int)(w:World)(h:Rd w .u32 A xs.length c xs)(h2:Rd w .u32 A2 ys.length c2 ys):
  Ctr prog 97 [.slice A xs.length c,.slice A2 ys.length c2] w [] (λv cs=>v= .bool (xs==ys)/\cs=[]):=by
 have hm:=h.max;have hc:=h.cap;unfold maxLen at hm;refine bN func97 rfl ntmps97 rfl (Inv.start w) ?_;refine rj ?_;refine ZW ?_ ?_<;>intro hc1
 .have hne:(xs==ys)=false:=by rw[beq_eq_false_iff_ne];rintro rfl;simp at hc1
  refine Z_7 ?_;refine Zra ?_;exact⟨by rw[hne],rfl⟩
 have hlen:xs.length=ys.length:=by(have:(xs.length:Int)=ys.length:=by simpa using hc1);omega
 refine Z_9 ?_;refine cq (λk:Nat=>[(5,.int .i64 (k:Int)),(0,.slice A xs.length c),(1,.slice A2 ys.length c2)]) (λ_=>[]) (λk=>k<=xs.length/\xs.take k=ys.take k) (λk=>xs.length - k) (0) ?_ ?_ ?_ ?_
 .exact⟨aq _,rfl⟩
 .exact Zwk
 .exact Zu
 rintro k ⟨hk,he⟩;refine Z_9 ?_;refine ZW ?_ ?_<;>intro hc4
 .simp only[aj]at hc4;obtain⟨ad,rfl⟩:=h.some_ Wq1;obtain⟨ad2,rfl⟩:=h2.some_ Wq1;refine Z_5 ?_;refine bU ⟨λj=>List.elem j [],[]⟩ Zk ?_;refine gO ?_;refine cG 2 rfl Zk Zk Zk (dX rfl Zrf (Zv rfl) (Zv rfl) Zrf Wq4) rfl ?_;refine dD 3 rfl Zk Zk Zk Zk (bQ Zrf (Zv rfl)) (eo h (nM (show k<xs.length by omega))) rfl ?_;refine ZE 4 ?_;refine ZE 5 ?_;refine cG 6 rfl Zk Zk Zk (dX rfl Zrf (Zv rfl) (Zv rfl) Zrf Wq4) rfl ?_;refine dD 7 rfl Zk Zk Zk Zk (bQ Zrf (Zv rfl)) (eo h2 (nM (show k<ys.length by omega))) rfl ?_;refine ZE 8 ?_;refine dx ?_;refine Zt ?_;refine ZW ?_ ?_<;>intro hc6
  .have hne:(xs==ys)=false:=by rw[beq_eq_false_iff_ne];rintro rfl;simp at hc6
   refine fE ?_;refine Zra ?_;exact⟨by rw[hne],rfl⟩
  have heq:xs[k]'(by omega)=ys[k]'(by omega):=by simpa using hc6
  refine Z_5 ?_;refine Wq8 ?_;refine dW (k+1) ?_ ?_ ?_
  .refine⟨⟨by omega,?_⟩,by omega⟩;rw[List.take_succ_eq_append_getElem Wq1,List.take_succ_eq_append_getElem Wq1,he,heq]
  .exact Zwk
  exact Zu
 simp only[ah]at hc4;refine fE ?_;refine Zra ?_;refine⟨?_,rfl⟩;have hkk:k=xs.length:=by omega
 subst hkk;rw[bn]at he;rw[he,hlen,bn];simp
end Go.Proofs.YtkegldppffignaaGreatDoor
namespace Go.Ink
def St.N5(a b:St):Bool:=
 (((((((((((((((a.pc==b.pc)&&(a.d==b.d))&&(a.r==b.r))&&(a.flags==b.flags))&&(a.MQ==b.MQ))&&(a.MU==b.MU))&&(a.ie==b.ie))&&(a.root==b.root))&&(a.vec==b.vec))&&(a.epc==b.epc))&&(a.MR==b.MR))&&(a.addr==b.addr))&&(a.M1==b.M1))&&(a.eie==b.eie))&&(a.count==b.count))&&(a.halted==b.halted)
theorem St.NU(a b:St):a.N5 b=true<->a=b:=by
 unfold St.N5;constructor
 .intro h;simp only[aL,beq_iff_eq]at h;obtain⟨⟨⟨⟨⟨⟨⟨⟨⟨⟨⟨⟨⟨⟨⟨h1,h2⟩,h3⟩,h4⟩,h5⟩,h6⟩,h7⟩,h8⟩,h9⟩,h10⟩,h11⟩,h12⟩,h13⟩,h14⟩,h15⟩,h16⟩:=h;cases a;cases b;simp_all
 rintro rfl;simp
theorem St.NZ(a:St):a.N5 a=true:=(St.NU a a).2 rfl
end Go.Ink
namespace Go.Proofs.YtkegldppffignaaGreatDoor
open Go.RowKit Go.Ink Go.Proofs.Tryz
attribute [local irreducible] OpY bS
set_option maxRecDepth 100000 in
theorem Kc(s t:St)(Ad Ar Bd Br:Option Addr)(cd cr ed er:Nat)(w:World)(h:oJ w s Ad Ar cd cr)(h2:oJ w t Bd Br ed er):
  Ctr prog 71 [sv s Ad cd Ar cr,sv t Bd ed Br er] w [] (λv cs=>v= .bool (s.N5 t)/\cs=[]):=by
 refine bN func71 rfl ntmps71 rfl (Inv.start w) ?_;refine Z_2 ?_;refine ZO λb2=>?_;refine ZO λb3=>?_
 refine rj ?_;refine eu (bR rfl rfl) (.cons (dh rfl) (.cons (dh rfl) .nil)) (λ_ _=>rfl) (λhg w hi=>BU Ad Bd cd ed s.d t.d w (h.d.MZ hi) (h2.d.MZ hi)) rfl ?_;refine Z_6 ?_;refine eu (bR rfl rfl) (.cons (dh rfl) (.cons (dh rfl) .nil)) (λ_ _=>rfl) (λhg w hi=>BU Ar Br cr er s.r t.r w (h.r.MZ hi) (h2.r.MZ hi)) rfl ?_;refine mn ?_;refine mn ?_;refine mn ?_;refine mn ?_;refine ri ?_;refine Zra ?_;exact de
end Go.Proofs.YtkegldppffignaaGreatDoor
namespace Go.Ink
open Go.RowKit
theorem ke(n lo hi:Int)(h:lo<=hi):lo<=kM n lo hi/\kM n lo hi<=hi:=by
 unfold kM;have h1:=Int.emod_nonneg n (show hi - lo+1≠0 by omega);have h2:=Int.emod_lt_of_pos n (show 0<hi - lo+1 by omega);omega
def St.Na(s:St):List Int:=[b2i s.ie,b2i s.MU,s.root,s.vec,s.epc,s.MR,s.addr,b2i s.M1,b2i s.eie,IntKind.u32.wrap s.count,s.flags]
end Go.Ink
namespace Go.Proofs.YtkegldppffignaaGreatDoor
open Go.RowKit Go.Ink Go.Proofs.Tryz
attribute [local irreducible] OpY bS
theorem own0:ownKnob prog.godebug=none:=by kernel_rfl
theorem AO:laidOutB prog=true:=by kernel_rfl
theorem E5{n:Int}(h:(Lit.int .u32 n).wf=true):u32 n:=by
 simp only[Lit.wf,aL,aj]at h;have h1:IntKind.u32.min=0:=rfl;have h2:IntKind.u32.max=4294967295:=rfl;rw[h1,h2]at h;exact h
theorem arg1{W:World}{t:TypeId}{k:IntKind}{c:Value}(ht:prog.underlying t=some (.int k))(h:Arg prog W t [c]):∃n,c= .int k n/\(Lit.int k n).wf=true:=by
 obtain⟨n,h1,h2⟩:=h.int ht;exact⟨n,by simpa using h1,h2⟩
theorem nP{f:FuncId}{args:List Value}{w:World}(h:Ctr prog f args w [] (λv cs=>v= .bool true/\cs=[])):Calls prog f args.toArray w λe w'=>e= .returned (.bool true)/\Below w.heap.size w w':=
 Calls.mono h λ_ _ ⟨_,_,he,⟨h1,h2⟩,hi⟩=>⟨by rw[he,h1],hi.Nb.below⟩
end Go.Proofs.YtkegldppffignaaGreatDoor
namespace Go.Ink
open Go.RowKit Go.MapKept
open Go.ChangeMaps (setBlock)
open Go.Maps (Keyed)
abbrev Ky:=Int×Int
def kyV(q:Ky):Value:= .agg #[.int .u32 q.1,.int .u32 q.2]
def lc(q:Ky):Prop:=(0<=q.1/\q.1<=4294967295)/\(0<=q.2/\q.2<=4294967295)
theorem kyV_inj{p q:Ky}(h:kyV p=kyV q):p=q:=by
 obtain⟨a,b⟩:=p;obtain⟨c,d⟩:=q;simp only[kyV,Value.agg.injEq]at h;have h2:=congrArg Array.toList h;simp only[List.cons.injEq,Value.int.injEq,true_and,and_true]at h2;obtain⟨rfl,rfl⟩:=h2
 rfl
def cS{α:Type}(key:α->Ky)(k:Ky)(l:List α):Option Nat:=l.findIdx? λx=>key x==k
def dL{β:Type}(L:List (Ky×β))(k:Ky)(v:β):List (Ky×β):=match cS (·.1) k L with
 |some j=>L.set j (k,v)
 |none=>L++[(k,v)]
def gq{β:Type}(L:List (Ky×β))(k:Ky)(z:β):β:=((L.find? λx=>x.1==k).map (·.2)).getD z
def pu{β:Type}(L:List (Ky×β))(k:Ky):List (Ky×β):=match cS (·.1) k L with
 |some j=>L.eraseIdx j
 |none=>L
theorem fH{α:Type}{key:α->Ky}{k:Ky}{l:List α}{j:Nat}(h:cS key k l=some j):∃hj:j<l.length,key l[j]=k:=by
 unfold cS at h;obtain⟨hj,h1, -⟩:=List.findIdx?_eq_some_iff_getElem.1 h;exact⟨hj,by simpa using h1⟩
theorem iF{α:Type}{key:α->Ky}{k:Ky}{l:List α}(h:cS key k l=none):∀x,x∈l->key x≠k:=by
 unfold cS at h;rw[List.findIdx?_eq_none_iff]at h;exact λx hx e=>by have:=h x hx;simp[e]at this
theorem yy{α:Type}{key:α->Ky}{k:Ky}{l:List α}(h:∀x,x∈l->key x≠k):cS key k l=none:=by
 unfold cS;rw[List.findIdx?_eq_none_iff];exact λx hx=>by simpa using h x hx
theorem ki{α β:Type}{key:α->Ky}{key':β->Ky}(f:α->β)(hf:∀x,key' (f x)=key x)(k:Ky)(l:List α):cS key' k (l.map f)=cS key k l:=by
 unfold cS;rw[List.findIdx?_map];congr 1;funext x;simp[hf]
theorem qk{β:Type}{L:List (Ky×β)}{k:Ky}{j:Nat}(h:cS (·.1) k L=some j){v:β}(hv:L[j]? =some (k,v))(z:β):gq L k z=v:=by
 unfold cS at h;unfold gq;have:L.find? (λx=>x.1==k)=L[j]? :=by
  rw[List.findIdx?_eq_some_iff_getElem]at h;obtain⟨hj,h1,h2⟩:=h;rw[ai hj,List.find?_eq_some_iff_getElem];exact⟨h1,j,hj,rfl,λi hi=>by simpa using h2 i hi⟩
 rw[this,hv]
 rfl
theorem sS{β:Type}{L:List (Ky×β)}{k:Ky}(h:cS (·.1) k L=none)(z:β):gq L k z=z:=by
 unfold gq;have:L.find? (λx=>x.1==k)=none:=by
  rw[List.find?_eq_none];exact λx hx e=>iF h x hx (by simpa using e)
 rw[this]
 rfl
theorem wP{α β:Type}(f:α->β)(L:List (Ky×α))(k:Ky)(z:α):gq (L.map λx=>(x.1,f x.2)) k (f z)=f (gq L k z):=by
 unfold gq;rw[List.find?_map];have:((λx:Ky×β=>x.1==k)∘λx:Ky×α=>(x.1,f x.2))=λx=>x.1==k:=rfl
 rw[this];cases L.find? (λx=>x.1==k)<;>rfl
theorem BV{α β:Type}(f:α->β)(L:List (Ky×α))(k:Ky)(v:α):dL (L.map λx=>(x.1,f x.2)) k (f v)=(dL L k v).map λx=>(x.1,f x.2):=by
 unfold dL;rw[ki (key:=λx:Ky×α=>x.1) (λx:Ky×α=>(x.1,f x.2)) Zrf];cases cS (λx:Ky×α=>x.1) k L with
 |some j=>simp[List.map_set]
 |none=>simp
structure qM(P:Program)(k:TypeId):Prop where
 K:Keyed P k
 at_:∀q,lc q->∃l,keyOf P k (kyV q)=some l
def nv(b:Nat)(L:List (Ky×Value))(w:World):Prop:=∃es clock,w.heap[b]? =some (.map es clock)/\Stamped es clock/\(es.toList.map λe=>(e.key,e.val))=(L.map λx=>(kyV x.1,x.2))/\∀x,x∈L->lc x.1
abbrev mpc(b:Nat)(L:List (Ky×Value)):bL:= .gen [b] (nv b L)
 (λw w' h hk=>by obtain⟨es,cl,h1,h2⟩:=hk;exact⟨es,cl,(h b (by simp)).trans h1,h2⟩)
 (λw hk b' hb=>by obtain⟨es,cl,h1,_⟩:=hk;rw[aK]at hb;subst hb;exact(Array.getElem?_eq_some_iff.1 h1).1)
theorem lY{w w':World}{bs:List Nat}{c':bL}(hk:dG bs w w')(hn:c'.bs.Nodup)(hok:c'.ok w')(hsub:∀b,b∈c'.bs->b∈bs\/w.heap.size<=b):Inv w bs [c'] w':=
 ⟨hk,by simpa[bM]using hn,λc hc=>by rw[aK]at hc;subst hc;exact hok,λb hb=>hsub b (by simpa[bM]using hb)⟩
theorem iC{w:World}{b:Nat}{o o':Obj}(hb:w.heap[b]? =some o):dG [b] w (setBlock w b o'):=
 ⟨rfl,rfl,rfl,by simp[setBlock],λi _ hi=>(heap_set hb).2 i (by simpa using hi)⟩
theorem es_at{es:Array MapEntry}{L:List (Ky×Value)}(h:(es.toList.map λe=>(e.key,e.val))=(L.map λx=>(kyV x.1,x.2))){j:Nat}{e:MapEntry}(he:es.toList[j]? =some e):∃q,L[j]? =some (q,e.val)/\e.key=kyV q:=by
 have h1:=congrArg (λl=>l[j]?) h;simp only[bh,he,Option.map_some]at h1;cases hl:L[j]? with
 |none=>rw[hl]at h1;cases h1
 |some x=>
  rw[hl]at h1;simp only[Option.map_some,aU,aV]at h1;exact⟨x.1,by rw[h1.2],h1.1⟩
theorem Ip{es:Array MapEntry}{L:List (Ky×Value)}(h:(es.toList.map λe=>(e.key,e.val))=(L.map λx=>(kyV x.1,x.2))){j:Nat}{x:Ky×Value}(he:L[j]? =some x):∃e,es.toList[j]? =some e/\e.key=kyV x.1/\e.val=x.2:=by
 have h1:=congrArg (λl=>l[j]?) h;simp only[bh,he,Option.map_some]at h1;cases hl:es.toList[j]? with
 |none=>rw[hl]at h1;cases h1
 |some e=>
  rw[hl]at h1;simp only[Option.map_some,aU,aV]at h1;exact⟨e,rfl,h1.1,h1.2⟩
theorem nO{es:Array MapEntry}{clock:Nat}(h:Stamped es clock){i j:Nat}{e f:MapEntry}(hi:es.toList[i]? =some e)(hj:es.toList[j]? =some f)(hk:e.key=f.key):i=j:=by
 obtain⟨h1,e1⟩:=au.1 hi;obtain⟨h2,e2⟩:=au.1 hj;exact(List.getElem_inj (xs:=es.toList.map (·.key)) (h₀:=by simpa using h1) (h₁:=by simpa using h2) h.2.2).1 (by simp[e1,e2,hk])
section
variable {P:Program} {k e:TypeId} {T:TypeId} {w:World} {b:Nat} {L:List (Ky×Value)} {q:Ky} {es:Array MapEntry} {clock:Nat}
theorem qG(hK:qM P k)(hs:Stamped es clock)(hL:(es.toList.map λe=>(e.key,e.val))=(L.map λx=>(kyV x.1,x.2)))(hok:∀x,x∈L->lc x.1)(hq:lc q)(w:World):
  (cS (·.1) q L=none/\(Instr.findKey k (kyV q) es.toList).run P w= .ok none w/\∀x∈es.toList,x.key≠kyV q)\/
  ∃j e,cS (·.1) q L=some j/\(Instr.findKey k (kyV q) es.toList).run P w= .ok (some (j,e.val)) w/\es.toList[j]? =some e/\e.key=kyV q/\L[j]? =some (q,e.val):=by
 obtain⟨lq,hlq⟩:=hK.at_ q hq;have hkeys:∀e∈es.toList,∃l,keyOf P k e.key=some l:=λe he=>by
  obtain⟨j,hj⟩:=List.getElem?_of_mem he;obtain⟨p,hp,hpe⟩:=es_at hL hj;rw[hpe];exact hK.at_ p (hok _ (aD hp))
 rcases hK.K.find w hlq es.toList hkeys with⟨h1,h2⟩|⟨j,e,h1,h2,h3⟩
 .refine Or.inl ⟨yy λx hx hxq=>?_,h1,h2⟩;obtain⟨j,hj⟩:=List.getElem?_of_mem hx;obtain⟨e,he,hek, -⟩:=Ip hL hj;exact h2 e (aD he) (by rw[hek,hxq])
 obtain⟨p,hp,hpe⟩:=es_at hL h2;obtain rfl:p=q:=kyV_inj (hpe.symm.trans h3);refine Or.inr ⟨j,e,?_,h1,h2,h3,hp⟩;cases hpl:cS (·.1) p L with
 |none=>exact absurd rfl (iF hpl _ (aD hp))
 |some i=>
  obtain⟨hi,hik⟩:=fH hpl;obtain⟨f,hf,hfk, -⟩:=Ip hL (ai hi);rw[nO hs hf h2 (by rw[hfk,hik,h3])]
theorem KM(hT:P.underlying T=some (.map k e))(hK:qM P k){z:Value}(hz:(zeroValue e).run P w= .ok z w)(hq:lc q)(h:nv b L w)(c:Bool):
  (Instr.lookup T (.map (some b)) (kyV q) c).run P w= .ok (if c then .tuple #[gq L q z,.bool (cS (·.1) q L).isSome]else gq L q z) w:=by
 obtain⟨es,clock,hb,hs,hL,hok⟩:=h;obtain⟨lq,hlq⟩:=hK.at_ q hq;rcases qG hK hs hL hok hq w with⟨h1,h2,h3⟩|⟨j,e0,h1,h2,h3,h4,h5⟩
 .rw[sS h1,h1];cases c<;>simp[Instr.lookup,run_underlying hT,MapKept.run_getObj_map hb,hK.K.check w _ hlq,h2,hz,Result.andThen]
 rw[qk h1 h5,h1];cases c<;>simp[Instr.lookup,run_underlying hT,MapKept.run_getObj_map hb,hK.K.check w _ hlq,h2,Result.andThen]
theorem put_run(hT:P.underlying T=some (.map k e))(hK:qM P k)(hq:lc q)(h:nv b L w)(v:Value):
  ∃w',(Instr.mapUpdate T (.map (some b)) (kyV q) v).run P w= .ok () w'/\dG [b] w w'/\nv b (dL L q v) w':=by
 obtain⟨es,clock,hb,hs,hL,hok⟩:=h;obtain⟨lq,hlq⟩:=hK.at_ q hq;rcases qG hK hs hL hok hq w with⟨h1,h2,h3⟩|⟨j,e0,h1,h2,h3,h4,h5⟩
 .refine⟨setBlock w b (.map (es.push ⟨kyV q,v,clock⟩) (clock+1)),?_,iC hb,_,_,(heap_set hb).1,stamped_push hs h3,?_,?_⟩
  .simp[Instr.mapUpdate,run_underlying hT,MapKept.run_getObj_map hb,hK.K.check w false hlq,h2,MapKept.run_setObj_map _ hb,Result.andThen,setBlock]
  .unfold dL;rw[h1];simp[hL]
  unfold dL;rw[h1];intro x hx;rcases aS.1 hx with hx|hx
  .exact hok x hx
  obtain rfl:x=(q,v):=by simpa using hx
  exact hq
 have hj:es[j]? =some e0:=by simpa using h3
 have hkeyf:∀e',es[j]? =some e'->({e' with key:=kyV q,val:=v}:MapEntry).key=e'.key:=λe' he'=>by rw[hj]at he';cases he';exact h4.symm
 refine⟨setBlock w b (.map (es.modify j λe'=>{e' with key:=kyV q,val:=v}) clock),?_,iC hb,_,_,(heap_set hb).1,stamped_modify hs _ _ (λ_ _=>rfl) (λe' _ he'=>hkeyf e' he'),?_,?_⟩
 .simp[Instr.mapUpdate,run_underlying hT,MapKept.run_getObj_map hb,hK.K.check w false hlq,h2,hj,h4,hK.K.stays w hlq,MapKept.run_setObj_map _ hb,Result.andThen,setBlock]
 .unfold dL;rw[h1];dsimp only;rw[Array.toList_modify,ChangeMaps.modify_eq_set _ _ _ _ h3,List.map_set,List.map_set,hL]
 unfold dL;rw[h1];intro x hx;rcases List.mem_or_eq_of_mem_set hx with hx|rfl
 .exact hok x hx
 exact hq
theorem nc(es:Array MapEntry){j:Nat}(hj:j<es.toList.length):(es.eraseIdxIfInBounds j).toList=es.toList.eraseIdx j:=by
 unfold Array.eraseIdxIfInBounds;rw[dif_pos (by simpa using hj)];simp
theorem del_run(hT:P.underlying T=some (.map k e))(hK:qM P k)(hq:lc q)(h:nv b L w)(ty:TypeId):
  ∃w',(Builtin.delete_ #[T,k] ty #[.map (some b),kyV q]).run P w= .ok (.tuple #[]) w'/\dG [b] w w'/\nv b (pu L q) w':=by
 obtain⟨es,clock,hb,hs,hL,hok⟩:=h;obtain⟨lq,hlq⟩:=hK.at_ q hq;rcases qG hK hs hL hok hq w with⟨h1,h2,h3⟩|⟨j,e0,h1,h2,h3,h4,h5⟩
 .refine⟨setBlock w b (.map es clock),?_,iC hb,_,_,(heap_set hb).1,hs,?_,?_⟩
  .simp[Builtin.delete_,run_underlying hT,MapKept.run_getObj_map hb,hK.K.check w _ hlq,h2,MapKept.run_setObj_map _ hb,Result.andThen,setBlock]
  .unfold pu;rw[h1];exact hL
  unfold pu;rw[h1];exact hok
 have hjl:=(au.1 h3).1;refine⟨setBlock w b (.map (es.eraseIdxIfInBounds j) clock),?_,iC hb,_,_,(heap_set hb).1,stamped_erase hs j,?_,?_⟩
 .simp[Builtin.delete_,run_underlying hT,MapKept.run_getObj_map hb,hK.K.check w _ hlq,h2,MapKept.run_setObj_map _ hb,Result.andThen,setBlock]
 .unfold pu;rw[h1];dsimp only;rw[nc es hjl,ChangeMaps.map_eraseIdx,ChangeMaps.map_eraseIdx,hL]
 unfold pu;rw[h1];exact λx hx=>hok x ((List.eraseIdx_sublist _ _).subset hx)
end
def xK(b r:Nat)(L:List (Bool×Ky×Value))(cur:Option (Ky×Value))(w:World):Prop:=
 ∃es clock since seen c0,w.heap[b]? =some (.map es clock)/\Stamped es clock/\w.heap[r]? =some (.mapIter (some b) since seen c0)/\(∀x∈es.toList,x.born<since)/\since<=c0/\since<=clock/\
  (es.toList.map λe=>(seen.contains e.born,e.key,e.val))=(L.map λx=>(x.1,kyV x.2.1,x.2.2))/\(∀x,x∈L->lc x.2.1)/\b≠r/\
  ∀q v,cur=some (q,v)->c0=clock/\∃e∈es.toList,∃sn:Array Nat,seen=sn.push e.born/\e.key=kyV q/\e.val=v
abbrev itC(b r:Nat)(L:List (Bool×Ky×Value))(cur:Option (Ky×Value)):bL:= .gen [b,r] (xK b r L cur)
 (λw w' h hk=>by obtain⟨es,cl,si,se,c0,h1,h2,h3,h4⟩:=hk;exact⟨es,cl,si,se,c0,(h b (by simp)).trans h1,h2,(h r (by simp)).trans h3,h4⟩)
 (λw hk b' hb=>by
  obtain⟨es,cl,si,se,c0,h1,h2,h3,h4⟩:=hk;simp only[aJ,aY,or_false]at hb;rcases hb with rfl|rfl
  .exact(Array.getElem?_eq_some_iff.1 h1).1
  exact(Array.getElem?_eq_some_iff.1 h3).1)
abbrev EM:=Option (Nat×Ky×Value)
def DT(o:EM):List Value:=match o with|none=>[.bool false]|some (_,q,v)=>[.bool true,kyV q,v]
def AG(L:List (Bool×Ky×Value))(o:EM):List (Bool×Ky×Value):=match o with|none=>L|some (j,q,v)=>L.set j (true,q,v)
def GG(o:EM):Option (Ky×Value):=o.map (·.2)
def Ml(L:List (Bool×Ky×Value))(o:EM):Prop:=match o with|none=>∀x,x∈L->x.1=true|some (j,q,v)=>L[j]? =some (false,q,v)
theorem Mt{b r:Nat}{L:List (Bool×Ky×Value)}{cur:Option (Ky×Value)}{w:World}(h:xK b r L cur w):nv b (L.map (·.2)) w:=by
 obtain⟨es,clock,since,seen,c0,hb,hs,hr,hold,hsc,hsk,hL,hok,hne,hcur⟩:=h;refine⟨es,clock,hb,hs,?_,λx hx=>?_⟩
 .have:=congrArg (List.map (·.2)) hL;simp only[List.map_map]at this|-;exact this
 obtain⟨y,hy,rfl⟩:=aZ.1 hx;exact hok y hy
theorem Kx{P:Program}{b r:Nat}{L:List (Bool×Ky×Value)}{cur:Option (Ky×Value)}{w:World}(h:xK b r L cur w)(ty:TypeId):
  ∃o w',Ml L o/\(Instr.next (.pointer (some ⟨r,0,none⟩)) false ty).run P w= .ok (.tuple (DT o).toArray) w'/\dG [b,r] w w'/\xK b r (AG L o) (GG o) w':=by
 obtain⟨es,clock,since,seen,c0,hb,hs,hr,hold,hsc,hsk,hL,hok,hne,hcur⟩:=h;rcases run_next_at (P:=P) w ty r b since c0 seen es clock hr hb hold hsc with⟨h0,jy⟩|⟨e,he,w1,hal,jy⟩
 .refine⟨none,w,λx hx=>?_,jy,dG.refl _ _,es,clock,since,seen,c0,hb,hs,hr,hold,hsc,hsk,hL,hok,hne,λq v e=>by cases e⟩;have ha:=all_seen es seen h0;obtain⟨j,hj⟩:=List.getElem?_of_mem hx;have h1:=congrArg (λl=>l[j]?) hL;simp only[bh,hj,Option.map_some]at h1;cases hl:es.toList[j]? with
  |none=>rw[hl]at h1;cases h1
  |some e=>
   rw[hl]at h1;simp only[Option.map_some,aU,aV]at h1;rw[<-h1.1];exact ha e (aD hl)
 obtain⟨hem,hes⟩:=mem_left he;obtain⟨j,hj⟩:=List.getElem?_of_mem hem;have h1:=congrArg (λl=>l[j]?) hL;simp only[bh,hj,Option.map_some]at h1;cases hl:L[j]? with
 |none=>rw[hl]at h1;cases h1
 |some x=>
  obtain⟨f,q,v⟩:=x;rw[hl]at h1;simp only[Option.map_some,aU,aV]at h1;obtain⟨h1,h2,h3⟩:=h1;rw[hes]at h1;subst h1 h3;have hr1:w1.heap[r]? =some (.mapIter (some b) since seen c0):=by rcases hal with rfl|rfl<;>exact hr
  have hb1:w1.heap[b]? =some (.map es clock):=by rcases hal with rfl|rfl<;>exact hb
  have hset:=heap_set (o':= .mapIter (some b) since (seen.push e.born) clock) hr1;have hkp:dG [b,r] w (setBlock w1 r (.mapIter (some b) since (seen.push e.born) clock)):=by
   have hk1:=iC (o':= .mapIter (some b) since (seen.push e.born) clock) hr1;rcases hal with rfl|rfl<;>exact⟨rfl,rfl,rfl,hk1.size,λi hi hn=>hk1.block i hi (by simp at hn|-;omega)⟩
  refine⟨some (j,q,e.val),_,hl,by rw[jy,h2];rfl,hkp,es,clock,since,seen.push e.born,clock,(hset.2 b hne).trans hb1,hs,hset.1,hold,hsk,hsk,?_,λx hx=>?_,hne,λq' v' e'=>?_⟩
  .show _=(L.set j (true,q,e.val)).map _;rw[List.map_set,<-hL];apply List.ext_getElem?;intro i;rw[bh,List.getElem?_set];by_cases hij:j=i
   .subst hij;have hjl:=(au.1 hj).1;rw[if_pos rfl,if_pos (by simpa using hjl),hj];simp only[Option.map_some,contains_push,h2,beq_self_eq_true,Bool.or_true]
   rw[if_neg hij,bh];cases hi:es.toList[i]? with
   |none=>rfl
   |some x=>
    have hxb:(x.born==e.born)=false:=by
     rw[beq_eq_false_iff_ne];intro hbe;have:=born_inj hs.2.1 (aD hi) hem hbe;subst this;exact hij (nO hs hj hi rfl)
    simp only[Option.map_some,contains_push,hxb,Bool.or_false]
  .rcases List.mem_or_eq_of_mem_set hx with hx|rfl
   .exact hok x hx
   exact hok (false,q,e.val) (aD hl)
  simp only[GG,Option.map_some,aU,aV]at e';obtain⟨rfl,rfl⟩:=e';exact⟨rfl,e,hem,seen,rfl,h2,rfl⟩
theorem Ir{P:Program}{b r:Nat}{L:List (Bool×Ky×Value)}{q:Ky}{v:Value}{w:World}(h:xK b r L (some (q,v)) w):(Instr.entry (.pointer (some ⟨r,0,none⟩))).run P w= .ok (.tuple #[kyV q,v]) w:=by
 obtain⟨es,clock,since,seen,c0,hb,hs,hr,hold,hsc,hsk,hL,hok,hne,hcur⟩:=h;obtain⟨rfl,e,he,sn,rfl,h1,rfl⟩:=hcur q v rfl;rw[<-h1];exact run_entry_at w r b since sn es c0 e hr hb he hs.2.1
def uN(L:List (Bool×Ky×Value))(q:Ky):List (Bool×Ky×Value):=match cS (·.2.1) q L with
 |some j=>L.eraseIdx j
 |none=>L
section
variable {P:Program} {k e:TypeId} {T:TypeId} {w:World} {b r:Nat} {L:List (Bool×Ky×Value)} {cur:Option (Ky×Value)} {q:Ky}
theorem Hf(hT:P.underlying T=some (.map k e))(hK:qM P k)(hq:lc q)(h:xK b r L cur w)(ty:TypeId):
  ∃w',(Builtin.delete_ #[T,k] ty #[.map (some b),kyV q]).run P w= .ok (.tuple #[]) w'/\dG [b,r] w w'/\xK b r (uN L q) none w':=by
 have hm:=Mt h;obtain⟨es,clock,since,seen,c0,hb,hs,hr,hold,hsc,hsk,hL,hok,hne,hcur⟩:=h;obtain⟨lq,hlq⟩:=hK.at_ q hq;have hL2:(es.toList.map λe=>(e.key,e.val))=((L.map (·.2)).map λx=>(kyV x.1,x.2)):=by
  have:=congrArg (List.map (·.2)) hL;simp only[List.map_map]at this|-;exact this
 have hok2:∀x,x∈L.map (·.2)->lc x.1:=λx hx=>by obtain⟨y,hy,rfl⟩:=aZ.1 hx;exact hok y hy
 have hpl:cS (·.1) q (L.map (·.2))=cS (·.2.1) q L:=ki (key:=λx:Bool×Ky×Value=>x.2.1) (key':=λx:Ky×Value=>x.1) (·.2) Zrf q L;rcases qG hK hs hL2 hok2 hq w with⟨h1,h2,h3⟩|⟨j,e0,h1,h2,h3,h4,h5⟩
 .rw[hpl]at h1;have hk1:=iC (o':= .map es clock) hb;refine⟨setBlock w b (.map es clock),?_,⟨rfl,rfl,rfl,hk1.size,λi hi hn=>hk1.block i hi (by simp at hn|-;omega)⟩,es,clock,since,seen,c0,(heap_set hb).1,hs,((heap_set hb).2 r hne.symm).trans hr,hold,hsc,hsk,?_,?_,hne,λ_ _ e=>by cases e⟩
  .simp[Builtin.delete_,run_underlying hT,MapKept.run_getObj_map hb,hK.K.check w _ hlq,h2,MapKept.run_setObj_map _ hb,Result.andThen,setBlock]
  .unfold uN;rw[h1];exact hL
  unfold uN;rw[h1];exact hok
 rw[hpl]at h1;have hjl:=(au.1 h3).1;have hk1:=iC (o':= .map (es.eraseIdxIfInBounds j) clock) hb;refine⟨setBlock w b (.map (es.eraseIdxIfInBounds j) clock),?_,⟨rfl,rfl,rfl,hk1.size,λi hi hn=>hk1.block i hi (by simp at hn|-;omega)⟩,es.eraseIdxIfInBounds j,clock,since,seen,c0,(heap_set hb).1,stamped_erase hs j,((heap_set hb).2 r hne.symm).trans hr,?_,hsc,hsk,?_,?_,hne,λ_ _ e=>by cases e⟩
 .simp[Builtin.delete_,run_underlying hT,MapKept.run_getObj_map hb,hK.K.check w _ hlq,h2,MapKept.run_setObj_map _ hb,Result.andThen,setBlock]
 .rw[nc es hjl];exact λx hx=>hold x ((List.eraseIdx_sublist _ _).subset hx)
 .unfold uN;rw[h1];dsimp only;rw[nc es hjl,ChangeMaps.map_eraseIdx,ChangeMaps.map_eraseIdx,hL]
 unfold uN;rw[h1];exact λx hx=>hok x ((List.eraseIdx_sublist _ _).subset hx)
theorem He(hT:P.underlying T=some (.map k e))(hK:qM P k)(h:xK b r L cur w){j:Nat}{f:Bool}{v0:Value}(hj:L[j]? =some (f,q,v0))(v:Value):
  ∃w',(Instr.mapUpdate T (.map (some b)) (kyV q) v).run P w= .ok () w'/\dG [b,r] w w'/\xK b r (L.set j (f,q,v)) none w':=by
 obtain⟨es,clock,since,seen,c0,hb,hs,hr,hold,hsc,hsk,hL,hok,hne,hcur⟩:=h;have hq:lc q:=hok _ (aD hj);obtain⟨lq,hlq⟩:=hK.at_ q hq;have hL2:(es.toList.map λe=>(e.key,e.val))=((L.map (·.2)).map λx=>(kyV x.1,x.2)):=by
  have:=congrArg (List.map (·.2)) hL;simp only[List.map_map]at this|-;exact this
 have hok2:∀x,x∈L.map (·.2)->lc x.1:=λx hx=>by obtain⟨y,hy,rfl⟩:=aZ.1 hx;exact hok y hy
 rcases qG hK hs hL2 hok2 hq w with⟨h1,h2,h3⟩|⟨i,e0,h1,h2,h3,h4,h5⟩
 .exact absurd rfl (iF h1 (q,v0) (aZ.2 ⟨_,aD hj,rfl⟩))
 have hij:i=j:=by
  have hjj:(L.map (·.2))[j]? =some (q,v0):=by rw[bh,hj];rfl
  obtain⟨f1,hf1,hf2, -⟩:=Ip hL2 hjj;exact nO hs h3 hf1 (by rw[h4,hf2])
 subst hij;have hji:es[i]? =some e0:=by simpa using h3
 have hkeyf:∀e',es[i]? =some e'->({e' with key:=kyV q,val:=v}:MapEntry).key=e'.key:=λe' he'=>by rw[hji]at he';cases he';exact h4.symm
 have hk1:=iC (o':= .map (es.modify i λe'=>{e' with key:=kyV q,val:=v}) clock) hb;have hset:(es.modify i λe'=>{e' with key:=kyV q,val:=v}).toList=es.toList.set i {e0 with key:=kyV q,val:=v}:=by rw[Array.toList_modify,ChangeMaps.modify_eq_set _ _ _ _ h3]
 refine⟨setBlock w b (.map (es.modify i λe'=>{e' with key:=kyV q,val:=v}) clock),?_,⟨rfl,rfl,rfl,hk1.size,λi hi hn=>hk1.block i hi (by simp at hn|-;omega)⟩,_,clock,since,seen,c0,(heap_set hb).1,stamped_modify hs _ _ (λ_ _=>rfl) (λe' _ he'=>hkeyf e' he'),((heap_set hb).2 r hne.symm).trans hr,?_,hsc,hsk,?_,?_,hne,λ_ _ e=>by cases e⟩
 .simp[Instr.mapUpdate,run_underlying hT,MapKept.run_getObj_map hb,hK.K.check w false hlq,h2,hji,h4,hK.K.stays w hlq,MapKept.run_setObj_map _ hb,Result.andThen,setBlock]
 .rw[hset];intro x hx;rcases List.mem_or_eq_of_mem_set hx with hx|rfl
  .exact hold x hx
  exact hold e0 (aD h3)
 .rw[hset,List.map_set,List.map_set,hL];have h6:=congrArg (λl=>l[i]?) hL;simp only[bh,hj,h3,Option.map_some,aU,aV]at h6;dsimp only;rw[h6.1]
 intro x hx;rcases List.mem_or_eq_of_mem_set hx with hx|rfl
 .exact hok x hx
 exact hq
end
section
variable {C:Cx} {fr:Fr} {cs:List bL} {d:Option Nat} {T k e:TypeId} {x y z:Operand} {ty:TypeId} {pos:String} {af:Array Edge} {gd:Option (Nat×Bool)} {g:Bool} {v:Value} {b r:Nat} {L:List (Ky×Value)} {IL:List (Bool×Ky×Value)} {cur:Option (Ky×Value)} {q:Ky} {mk:bL->List bL}
theorem zN{zv:Value}(hx:Ev fr g x (.map (some b)))(hy:Ev fr g y (kyV q))(hq:lc q)(hT:C.P.underlying T=some (.map k e))(hK:qM C.P k)(hz:∀w,(zeroValue e).run C.P w= .ok zv w):
  OpY C ⟨d,.lookup T x y false,ty,pos,af,gd⟩ fr g (nv b L) (gq L q zv):=λa w hf hv hg=>by
 have:=KM hT hK (hz w) hq hv false;simp[execOp,hx.eval hf hg,hy.eval hf hg,this]
theorem y_mlen(hx:Ev fr g x (.map (some b)))(hT:C.P.underlying T=some (.map k e)):OpY C ⟨d,.call {callee:= .builtin .len,args:= #[x],argTypes:= #[T]},ty,pos,af,gd⟩ fr g (nv b L) (.int .i64 (L.length:Int)):=λa w hf hv hg=>by
 obtain⟨es,clock,hb,hs,hL,hok⟩:=hv;have e1:es.size=L.length:=by
  have:=congrArg List.length hL;simpa using this
 simp[execOp,resolve,invoke,builtin,hx.eval hf hg,Builtin.len_,run_underlying hT,MapKept.run_getObj_map hb,goInt,Result.andThen,e1]
theorem z6(hT:C.P.underlying T=some (.map k e)):OpT C ⟨d,.makeMap T none,ty,pos,af,gd⟩ fr cs false (λv cs'=>∃b,v= .map (some b)/\cs'=cs++[mpc b []]):=λa w hf hi next Q h=>by
 have hr:(execOp a.eval ⟨d,.makeMap T none,ty,pos,af,gd⟩).run C.P w= .ok (.value (.map (some w.heap.size))) (w.alloc (.map #[] 0)):=by
  have:=run_makeMap (P:=C.P) T w;simp[execOp,this]
 unfold Oper.wp;rw[hr];refine h _ _ _ ⟨_,rfl,rfl⟩ (hi.more (lY (dG.NG ((Below.refl _ _).alloc (aM _) _) _) (by simp[bL.bs]) ⟨#[],0,xp w _,stamped_empty 0,by simp,by simp⟩ λb hb=>?_)) (λ_=>vY.alloc w _);right;simp[bL.bs]at hb;omega
theorem t_mput(hx:ev fr x=some (.map (some b)))(hy:ev fr y=some (kyV q))(hz:ev fr z=some v)(hq:lc q)(hT:C.P.underlying T=some (.map k e))(hK:qM C.P k)(hu:At cs (mpc b L) mk):
  OpT C ⟨d,.mapUpdate T x y z,ty,pos,af,gd⟩ fr cs true (λu cs'=>u=undef/\cs'=mk (mpc b (dL L q v))):=λa w hf hi next Q h=>by
 obtain⟨w',h1,h2,h3⟩:=put_run hT hK hq (hi.get hu.has) v;unfold Oper.wp;have hr:(execOp a.eval ⟨d,.mapUpdate T x y z,ty,pos,af,gd⟩).run C.P w= .ok .skip w':=by simp[execOp,hf.ev hx,hf.ev hy,hf.ev hz,h1]
 rw[hr];exact h _ _ _ ⟨rfl,rfl⟩ (hi.upd (hu _) h2 (lY h2 (by simp[bL.bs]) h3 (λb hb=>Or.inl hb))) (λe=>by cases e)
theorem t_mdel(hx:ev fr x=some (.map (some b)))(hy:ev fr y=some (kyV q))(hq:lc q)(hT:C.P.underlying T=some (.map k e))(hK:qM C.P k)(hu:At cs (mpc b L) mk):
  OpT C ⟨d,.call {callee:= .builtin .delete,args:= #[x,y],argTypes:= #[T,k]},ty,pos,af,gd⟩ fr cs true (λu cs'=>u= .tuple #[]/\cs'=mk (mpc b (pu L q))):=λa w hf hi next Q h=>by
 obtain⟨w',h1,h2,h3⟩:=del_run hT hK hq (hi.get hu.has) ty;unfold Oper.wp;have hr:(execOp a.eval ⟨d,.call {callee:= .builtin .delete,args:= #[x,y],argTypes:= #[T,k]},ty,pos,af,gd⟩).run C.P w= .ok (.value (.tuple #[])) w':=by simp[execOp,resolve,invoke,builtin,hf.ev hx,hf.ev hy,h1]
 rw[hr];exact h _ _ _ ⟨rfl,rfl⟩ (hi.upd (hu _) h2 (lY h2 (by simp[bL.bs]) h3 (λb hb=>Or.inl hb))) (λe=>by cases e)
theorem BE(hx:ev fr x=some (.map (some b)))(hT:C.P.underlying T=some (.map k e))(hu:At cs (mpc b L) mk):
  OpT C ⟨d,.range T x,ty,pos,af,gd⟩ fr cs true (λu cs'=>∃r,u= .pointer (some ⟨r,0,none⟩)/\cs'=mk (itC b r (L.map λx=>(false,x)) none)):=λa w hf hi next Q h=>by
 obtain⟨es,clock,hb,hs,hL,hok⟩:=(show nv b L w from hi.get hu.has);have hlt:b<w.heap.size:=(Array.getElem?_eq_some_iff.1 hb).1;have jy:=run_range_map (P:=C.P) w T k e b es clock hT hb;have hr:(execOp a.eval ⟨d,.range T x,ty,pos,af,gd⟩).run C.P w= .ok (.value (.pointer (some ⟨w.heap.size,0,none⟩))) (w.alloc (.mapIter (some b) clock #[] clock)):=by
  simp[execOp,hf.ev hx,jy]
 have hk:dG [b] w (w.alloc (.mapIter (some b) clock #[] clock)):=dG.NG ((Below.refl _ _).alloc (aM _) _) _;unfold Oper.wp;rw[hr];refine h _ _ _ ⟨_,rfl,rfl⟩ (hi.upd (hu _) hk (lY hk ?_ ⟨es,clock,clock,#[],clock,((MapKept.heap_alloc w _).2 b hlt).trans hb,hs,xp w _,hs.1,aM _,aM _,?_,?_,by omega,λ_ _ e=>by cases e⟩ λb' hb'=>?_)) (λe=>by cases e)
 .simp[bL.bs];omega
 .rw[List.map_map];have e1:=congrArg (List.map λp:Value×Value=>(false,p.1,p.2)) hL;simp only[List.map_map]at e1;have e2:(λe:MapEntry=>((#[]:Array Nat).contains e.born,e.key,e.val))=λe=>(false,e.key,e.val):=by funext e;simp
  rw[e2];exact e1
 .intro x hx;obtain⟨y,hy,rfl⟩:=aZ.1 hx;exact hok y hy
 simp only[bL.bs,aJ,aY,or_false]at hb';rcases hb' with rfl|rfl
 .left;simp[bL.bs]
 right;exact aM _
theorem FM(hx:ev fr x=some (.pointer (some ⟨r,0,none⟩)))(hu:At cs (itC b r IL cur) mk):
  OpT C ⟨d,.next x false,ty,pos,af,gd⟩ fr cs true (λu cs'=>∃o:EM,Ml IL o/\u= .tuple (DT o).toArray/\cs'=mk (itC b r (AG IL o) (GG o))):=λa w hf hi next Q h=>by
 obtain⟨o,w',h1,h2,h3,h4⟩:=Kx (P:=C.P) (show xK b r IL cur w from hi.get hu.has) ty
 have hne:b≠r:=by obtain⟨_,_,_,_,_,_,_,_,_,_,_,_,_,hne,_⟩:=h4;exact hne
 have hr:(execOp a.eval ⟨d,.next x false,ty,pos,af,gd⟩).run C.P w= .ok (.value (.tuple (DT o).toArray)) w':=by simp[execOp,hf.ev hx,h2]
 unfold Oper.wp;rw[hr];exact h _ _ _ ⟨o,h1,rfl,rfl⟩ (hi.upd (hu _) h3 (lY h3 (by simpa[bL.bs]using hne) h4 (λb hb=>Or.inl hb))) (λe=>by cases e)
theorem EU{o:EM}(hx:Ev fr g x (.tuple (DT o).toArray)):OpY C ⟨d,.extract x 0,ty,pos,af,gd⟩ fr g Any (.bool o.isSome):=λa w hf _ hg=>by
 rcases o with _|⟨j,q,v⟩
 .simp[execOp,hx.eval hf hg,Instr.extract,DT]
 simp[execOp,hx.eval hf hg,Instr.extract,DT]
theorem EX(hx:Ev fr g x (.pointer (some ⟨r,0,none⟩))):OpY C ⟨d,.entry x,ty,pos,af,gd⟩ fr g (xK b r IL (some (q,v))) (.tuple #[kyV q,v]):=λa w hf hv hg=>by
 simp[execOp,hx.eval hf hg,Ir hv]
theorem t_itdel(hx:ev fr x=some (.map (some b)))(hy:ev fr y=some (kyV q))(hq:lc q)(hT:C.P.underlying T=some (.map k e))(hK:qM C.P k)(hu:At cs (itC b r IL cur) mk):
  OpT C ⟨d,.call {callee:= .builtin .delete,args:= #[x,y],argTypes:= #[T,k]},ty,pos,af,gd⟩ fr cs true (λu cs'=>u= .tuple #[]/\cs'=mk (itC b r (uN IL q) none)):=λa w hf hi next Q h=>by
 obtain⟨w',h1,h2,h3⟩:=Hf hT hK hq (show xK b r IL cur w from hi.get hu.has) ty;have hne:b≠r:=by obtain⟨_,_,_,_,_,_,_,_,_,_,_,_,_,hne,_⟩:=h3;exact hne
 unfold Oper.wp;have hr:(execOp a.eval ⟨d,.call {callee:= .builtin .delete,args:= #[x,y],argTypes:= #[T,k]},ty,pos,af,gd⟩).run C.P w= .ok (.value (.tuple #[])) w':=by simp[execOp,resolve,invoke,builtin,hf.ev hx,hf.ev hy,h1]
 rw[hr];exact h _ _ _ ⟨rfl,rfl⟩ (hi.upd (hu _) h2 (lY h2 (by simpa[bL.bs]using hne) h3 (λb hb=>Or.inl hb))) (λe=>by cases e)
theorem t_itput{j:Nat}{f:Bool}{v0:Value}(hj:IL[j]? =some (f,q,v0))(hx:ev fr x=some (.map (some b)))(hy:ev fr y=some (kyV q))(hz:ev fr z=some v)(hT:C.P.underlying T=some (.map k e))(hK:qM C.P k)(hu:At cs (itC b r IL cur) mk):
  OpT C ⟨d,.mapUpdate T x y z,ty,pos,af,gd⟩ fr cs true (λu cs'=>u=undef/\cs'=mk (itC b r (IL.set j (f,q,v)) none)):=λa w hf hi next Q h=>by
 obtain⟨w',h1,h2,h3⟩:=He hT hK (show xK b r IL cur w from hi.get hu.has) hj v;have hne:b≠r:=by obtain⟨_,_,_,_,_,_,_,_,_,_,_,_,_,hne,_⟩:=h3;exact hne
 unfold Oper.wp;have hr:(execOp a.eval ⟨d,.mapUpdate T x y z,ty,pos,af,gd⟩).run C.P w= .ok .skip w':=by simp[execOp,hf.ev hx,hf.ev hy,hf.ev hz,h1]
 rw[hr];exact h _ _ _ ⟨rfl,rfl⟩ (hi.upd (hu _) h2 (lY h2 (by simpa[bL.bs]using hne) h3 (λb hb=>Or.inl hb))) (λe=>by cases e)
theorem Inv.itEnd{w0 w:World}{S:List Nat}{rest:List bL}(h:Inv w0 S (itC b r IL cur::rest) w):Inv w0 S (mpc b (IL.map (·.2))::rest) w:=by
 have hm:nv b (IL.map (·.2)) w:=Mt (show xK b r IL cur w from h.ok (itC b r IL cur) (List.mem_cons_self ..));have hn:=h.nodup;rw[eN]at hn;refine⟨h.Nb,?_,λc hc=>?_,λx hx=>h.own x ?_⟩
 .rw[eN];exact(List.Sublist.append (show([b]:List Nat).Sublist [b,r]from(List.Sublist.slnil.cons r).cons_cons b) (aR _)).nodup hn
 .rcases aJ.1 hc with rfl|hc
  .exact hm
  exact h.ok c (bH _ hc)
 rw[eN]at hx|-;rcases aS.1 hx with hx|hx
 .refine List.mem_append_left _ ?_;have:x=b:=by simpa[bL.bs]using hx
  simp[bL.bs,this]
 exact List.mem_append_right _ hx
end
theorem KQ{α:Type}(cur vs:List α)(o m:Nat)(h:o+vs.length<=m)(hm:m<=cur.length):(cur.take o++vs++cur.drop (o+vs.length)).take m=(cur.take m).take o++vs++(cur.take m).drop (o+vs.length):=by
 rw[List.take_append,List.take_of_length_le (by rw[ae,aB];omega),List.take_take,Nat.min_eq_left Wq1,List.drop_take,ae,aB,Nat.min_eq_left Wq1]
theorem v5(z:List Value)(k:Nat)(hz:0<z.length):∀u,u∈(Builtin.zeroCells z.toArray k).toList->u∈z:=λu hu=>by
 unfold Builtin.zeroCells at hu;simp only[Array.toList_map,aZ]at hu;obtain⟨i, -,rfl⟩:=hu;have:i%z.length<z.length:=Nat.mod_lt _ hz;simp[ai this]
theorem v6(z:List Value)(k:Nat):(Builtin.zeroCells z.toArray k).toList.length=k*z.length:=by simp[Builtin.zeroCells]
section
variable {C:Cx} {fr:Fr} {cs:List bL} {d:Option Nat} {T T' k e:TypeId} {x y z:Operand} {ty:TypeId} {pos:String} {af:Array Edge} {gd:Option (Nat×Bool)} {g:Bool} {v:Value} {mk:bL->List bL}
theorem sB{bb o n c sz:Nat}{xs vs:List Value}(hT:∀w,(sizeOf T).run C.P w= .ok sz w)(hx:ev fr x=some (.pointer (some ⟨bb,o,none⟩)))(hy:ev fr y=some (.agg vs.toArray))(h1:∀u∈vs,u.oneCell'=true)(hu:At cs (slv e sz (some ⟨bb,0,none⟩) n c xs) mk)(hn:vs.length=sz)(ho:o+sz<=n*sz):
  OpT C ⟨d,.store T x y,ty,pos,af,gd⟩ fr cs true (λu cs'=>u=undef/\cs'=mk (slv e sz (some ⟨bb,0,none⟩) n c (xs.take o++vs++xs.drop (o+sz)))):=λa w hf hi next Q h=>by
 have hown:w.ownsRow 0 e sz (.slice (some ⟨bb,0,none⟩) n c) n xs:=hi.get hu.has;obtain⟨hl0,h2⟩:=hown;rcases h2 with⟨hv,_⟩|⟨g',cap,cur,hv,hg0,hh,hnc,hcm,hcs,htk⟩
 .cases hv
 simp only[Value.slice.injEq,aU,Addr.mk.injEq,and_true,true_and]at hv;obtain⟨rfl,rfl⟩:=hv;have hle:n*sz<=c*sz:=Nat.mul_le_mul_right _ hnc;have hcl:cur.toList.length=c*sz:=by simpa using hcs
 have hst:=run_storeCells_at C.P bb o e vs 0 cur w hh (by rw[hcs,hn];omega) h1;simp only[Nat.add_zero]at hst;have hk:dG [bb] w (w.setRow bb (cur.toList.take o++vs++cur.toList.drop (o+vs.length)).toArray):=⟨rfl,rfl,rfl,by simp[World.setRow],λj _ hj=>by
  simp only[World.setRow,Array.getElem?_modify];rw[if_neg (by simp at hj;omega)]⟩
 have hr:(execOp a.eval ⟨d,.store T x y,ty,pos,af,gd⟩).run C.P w= .ok .skip (w.setRow bb (cur.toList.take o++vs++cur.toList.drop (o+vs.length)).toArray):=by
  simp[execOp,hf.ev hx,hf.ev hy,Instr.storeAt,Instr.sureAddr,storeVar,hT,Value.cells,hst,hn]
 have hown2:(w.setRow bb (cur.toList.take o++vs++cur.toList.drop (o+vs.length)).toArray).ownsRow 0 e sz (.slice (some ⟨bb,0,none⟩) n c) n (xs.take o++vs++xs.drop (o+sz)):=by
  refine⟨?_,.inr ⟨bb,c,(cur.toList.take o++vs++cur.toList.drop (o+vs.length)).toArray,rfl,hg0,?_,hnc,hcm,?_,?_⟩⟩
  .rw[ae,ae,aB,bI,hl0,hn];omega
  .simp[World.setRow,Array.getElem?_modify,hh]
  .rw[List.size_toArray,ae,ae,aB,bI,hcl,hn];omega
  rw[<-htk,<-hn];exact KQ cur.toList vs o (n*vs.length) (by rw[hn];omega) (by rw[hcl,hn];exact hle)
 unfold Oper.wp;rw[hr];refine h _ _ _ ⟨rfl,rfl⟩ (hi.upd (hu _) (by simpa[bL.bs,ab]using hk) (jU (by simpa[bL.bs,ab]using hk) hown2 λa ha=>?_)) (λe=>by cases e);obtain rfl:(⟨bb,0,none⟩:Addr)=a:=by simpa using ha
 left;simp[bL.bs,ab]
theorem ye{bb o k cc n c sz:Nat}{xs zs:List Value}{z:Value}(hx:ev fr x=some (.slice (some ⟨bb,o,none⟩) k cc))(hu:At cs (slv e sz (some ⟨bb,0,none⟩) n c xs) mk)(ht:C.P.underlying T=some (.slice e))(hz:∀w,(zeroValue e).run C.P w= .ok z w)(hz1:z.cells=zs.toArray)(hzl:zs.length=sz)(hs0:0<sz)(hz2:∀u∈zs,u.oneCell'=true)(hno:n*sz<=o)(hoc:o+k*sz<=c*sz):
  OpT C ⟨d,.call {callee:= .builtin .clear,args:= #[x],argTypes:= #[T]},ty,pos,af,gd⟩ fr cs true (λv cs'=>v= .tuple #[]/\cs'=mk (slv e sz (some ⟨bb,0,none⟩) n c xs)):=λa w hf hi next Q h=>by
 have hown:w.ownsRow 0 e sz (.slice (some ⟨bb,0,none⟩) n c) n xs:=hi.get hu.has;obtain⟨hl0,h2⟩:=hown;rcases h2 with⟨hv,_⟩|⟨g',cap,cur,hv,hg0,hh,hnc,hcm,hcs,htk⟩
 .cases hv
 simp only[Value.slice.injEq,aU,Addr.mk.injEq,and_true,true_and]at hv;obtain⟨rfl,rfl⟩:=hv;have hcl:cur.toList.length=c*sz:=by simpa using hcs
 obtain⟨ZC,hZC⟩:=Zgn ((Builtin.zeroCells zs.toArray k).toList);have hZl:ZC.length=k*sz:=by rw[<-hZC,v6,hzl]
 have hst:=run_storeCells_at C.P bb o e ZC 0 cur w hh (by rw[hZl,hcs];omega) (λu hu=>hz2 u (v5 zs k Wq1 u (by rw[hZC];exact hu)));simp only[Nat.add_zero]at hst;have key:∃w',(Builtin.clear_ #[T] ty #[.slice (some ⟨bb,o,none⟩) k cc]).run C.P w= .ok (.tuple #[]) w'/\dG [bb] w w'/\w'.ownsRow 0 e sz (.slice (some ⟨bb,0,none⟩) n c) n xs:=by
  cases k with
  |zero=>
   refine⟨w,by simp[Builtin.clear_,run_underlying ht],dG.refl _ _,⟨hl0,.inr ⟨bb,c,cur,rfl,hg0,hh,hnc,hcm,hcs,htk⟩⟩⟩
  |succ k=>
   refine⟨w.setRow bb (cur.toList.take o++ZC++cur.toList.drop (o+ZC.length)).toArray,?_,⟨rfl,rfl,rfl,by simp[World.setRow],λj _ hj=>?_⟩,⟨hl0,.inr ⟨bb,c,(cur.toList.take o++ZC++cur.toList.drop (o+ZC.length)).toArray,rfl,hg0,?_,hnc,hcm,?_,?_⟩⟩⟩
   .simp only[Builtin.clear_,List.getElem?_toArray,List.getElem?_cons_zero,Sem.run_bind,run_underlying ht,hz,hz1,hZC,hst,Result.andThen]
    rfl
   .simp only[World.setRow,Array.getElem?_modify];rw[if_neg (by simp at hj;omega)]
   .simp[World.setRow,Array.getElem?_modify,hh]
   .rw[List.size_toArray,ae,ae,aB,bI,hcl,hZl];omega
   rw[<-htk];show(cur.toList.take o++ZC++cur.toList.drop (o+ZC.length)).take (n*sz)=_;rw[ap,List.take_append_of_le_length (by rw[aB,hcl];omega),List.take_take,Nat.min_eq_left hno]
 obtain⟨w',jy,hk,ho⟩:=key;have hr':(execOp a.eval ⟨d,.call {callee:= .builtin .clear,args:= #[x],argTypes:= #[T]},ty,pos,af,gd⟩).run C.P w= .ok (.value (.tuple #[])) w':=by
  simp[execOp,resolve,invoke,builtin,hf.ev hx,jy]
 unfold Oper.wp;rw[hr'];refine h _ _ _ ⟨rfl,rfl⟩ (hi.upd (hu _) (by simpa[bL.bs,ab]using hk) (jU (by simpa[bL.bs,ab]using hk) ho λa ha=>?_)) (λe=>by cases e);obtain rfl:(⟨bb,0,none⟩:Addr)=a:=by simpa using ha
 left;simp[bL.bs,ab]
end
theorem BJ{e sz n c i:Nat}{A:Option Addr}{xs:List Value}(hi:i<=n)(w:World)(h:(slv e sz A n c xs).ok w):(slv e sz A i c (xs.take (i*sz))).ok w:=by
 obtain⟨h1,h2⟩:=h;have hle:i*sz<=n*sz:=Nat.mul_le_mul_right _ hi;refine⟨by rw[aB,h1];omega,?_⟩;rcases h2 with⟨hv,hn⟩|⟨g,cap,cur,hv,hg,hh,hnc,hcm,hcs,htk⟩
 .simp only[Value.slice.injEq]at hv;exact .inl ⟨by rw[hv.1,hv.2.2,show i=0 by omega],by omega⟩
 simp only[Value.slice.injEq]at hv;obtain⟨rfl, -,rfl⟩:=hv;exact .inr ⟨g,c,cur,rfl,hg,hh,by omega,hcm,hcs,by rw[<-htk,List.take_take,Nat.min_eq_left hle]⟩
section
variable {C:Cx} {Q:lK} {fr:Fr} {cs:List bL} {c:bL} {cin cin' rest r1:List bL}
theorem Inv.NR{w0 w:World}{S:List Nat}(h:Inv w0 S (dp cin::rest) w)(hp:cin.Perm (c::cin')):Inv w0 S (c::dp cin'::rest) w:=by
 obtain⟨_,_,h1⟩:=h.NV;have h2:Inv w0 S (cin'++(c::rest)) w:=h1.perm ((hp.append_right rest).trans List.perm_middle.symm);exact(Inv.NB (F:=λ_:Unit=>cin') (hb:=λ_=>rfl) (p:=λ_=>True) () trivial h2).perm (List.Perm.swap ..)
theorem Inv.Oc{w0 w:World}{S:List Nat}(h:Inv w0 S (c::dp cin::rest) w)(hp:cin'.Perm (c::cin)):Inv w0 S (dp cin'::rest) w:=by
 obtain⟨_,_,h1⟩:=(h.perm (List.Perm.swap ..)).NV;have h2:Inv w0 S (cin'++rest) w:=h1.perm (List.perm_middle.trans ((hp.append_right rest).symm));exact Inv.NB (F:=λ_:Unit=>cin') (hb:=λ_=>rfl) (p:=λ_=>True) () trivial h2
theorem Inv.Ob{w0 w:World}{S:List Nat}(h:Inv w0 S (dp cin::rest) w)(hs:cin'.Sublist cin):Inv w0 S (dp cin'::rest) w:=by
 obtain⟨_,_,h1⟩:=h.NV;exact Inv.NB (F:=λ_:Unit=>cin') (hb:=λ_=>rfl) (p:=λ_=>True) () trivial (h1.drop (hs.append (aR _)))
theorem zO{ops:Array Oper}{l:List Oper}(hd:Del cs (dp cin) rest)(hp:cin.Perm (c::cin'))(h:WL C ops Q l fr (c::dp cin'::rest)):WL C ops Q l fr cs:=λa w hf hi=>h a w hf ((hi.perm hd.perm).NR hp)
theorem Da{ops:Array Oper}{l:List Oper}(hd:Del cs (dp cin) r1)(hd2:Del r1 c rest)(hp:cin'.Perm (c::cin))(h:WL C ops Q l fr (dp cin'::rest)):WL C ops Q l fr cs:=λa w hf hi=>h a w hf (((hi.perm (hd.perm.trans (hd2.perm.cons _))).perm (List.Perm.swap ..)).Oc hp)
theorem uV{ops:Array Oper}{l:List Oper}(hd:Del cs (dp cin) rest)(hs:cin'.Sublist cin)(h:WL C ops Q l fr (dp cin'::rest)):WL C ops Q l fr cs:=λa w hf hi=>h a w hf ((hi.perm hd.perm).Ob hs)
theorem Inv.joinGet{w0 w:World}{S:List Nat}(h:Inv w0 S cs w)(hh:Has cs (dp cin))(hc:c∈cin):c.ok w:=rX (h.get hh) c hc
theorem Ctr.join{P:Program}{f:FuncId}{args:List Value}{w:World}{K:Value->List bL->Prop}(hi:Inv w (bM [dp cin]) [dp cin] w)(h:Inv w (bM cin) cin w->Ctr P f args w cin K):Ctr P f args w [dp cin] (λv cs=>∃cs0,K v cs0/\cs=[dp cs0]):=by
 have eb:∀c:List bL,bM [dp c]=bM c:=λc=>by simp[bM,dp,exC,bL.bs]
 have hi2:Inv w (bM cin) cin w:=by
  obtain⟨_,_,h1⟩:=hi.NV;rw[az,eb]at h1;exact h1
 refine Calls.mono (h hi2) λe w' hq=>?_
 obtain⟨v,cout,rfl,hk,hi3⟩:=hq;refine⟨v,[dp cout],rfl,⟨cout,hk,rfl⟩,?_⟩;rw[eb];exact Inv.NB (F:=λ_:Unit=>cout) (hb:=λ_=>rfl) (p:=λ_=>True) () trivial (by rw[az];exact hi3)
end
def Jb(b:Nat)(L:List (Ky×Value))(j:Nat)(st:Nat)(w:World):Prop:=∃es clock,w.heap[b]? =some (.map es clock)/\Stamped es clock/\(es.toList.map λe=>(e.key,e.val))=(L.map λx=>(kyV x.1,x.2))/\(∀x,x∈L->lc x.1)/\∃e,es.toList[j]? =some e/\e.born=st
abbrev meC(b:Nat)(L:List (Ky×Value))(j:Nat)(st:Nat):bL:= .gen [b] (Jb b L j st)
 (λw w' h hk=>by obtain⟨es,cl,h1,h2⟩:=hk;exact⟨es,cl,(h b (by simp)).trans h1,h2⟩)
 (λw hk b' hb=>by obtain⟨es,cl,h1,_⟩:=hk;rw[aK]at hb;subst hb;exact(Array.getElem?_eq_some_iff.1 h1).1)
def sY(L:List (Ky×Value))(q:Ky)(z:Value):List (Ky×Value):=match cS (·.1) q L with|some _=>L|none=>L++[(q,z)]
def xf(L:List (Ky×Value))(q:Ky):Nat:=(cS (·.1) q L).getD L.length
section
variable {C:Cx} {fr:Fr} {cs:List bL} {d:Option Nat} {T k e:TypeId} {x y z:Operand} {ty:TypeId} {pos:String} {af:Array Edge} {gd:Option (Nat×Bool)} {g:Bool} {v zv:Value} {b j st:Nat} {L:List (Ky×Value)} {q:Ky} {mk:bL->List bL}
theorem JM(hx:ev fr x=some (.map (some b)))(hy:ev fr y=some (kyV q))(hq:lc q)(hT:C.P.underlying T=some (.map k e))(hK:qM C.P k)(hz:∀w,(zeroValue e).run C.P w= .ok zv w)(hu:At cs (mpc b L) mk):
  OpT C ⟨d,.mapEntry T x y,ty,pos,af,gd⟩ fr cs true (λu cs'=>∃st:Nat,u= .tuple #[gq L q zv,.int .i64 (st:Int)]/\cs'=mk (meC b (sY L q zv) (xf L q) st)):=λa w hf hi next Q h=>by
 obtain⟨es,clock,hb,hs,hL,hok⟩:=(show nv b L w from hi.get hu.has);obtain⟨lq,hlq⟩:=hK.at_ q hq;have key:∃w' st,(Instr.mapEntry T (.map (some b)) (kyV q)).run C.P w= .ok (.tuple #[gq L q zv,.int .i64 ((st:Nat):Int)]) w'/\dG [b] w w'/\Jb b (sY L q zv) (xf L q) st w':=by
  rcases qG hK hs hL hok hq w with⟨h1,h2,h3⟩|⟨j,e0,h1,h2,h3,h4,h5⟩
  .refine⟨setBlock w b (.map (es.push ⟨kyV q,zv,clock⟩) (clock+1)),clock,?_,iC hb,_,_,(heap_set hb).1,stamped_push hs h3,?_,?_,?_⟩
   .rw[sS h1];simp[Instr.mapEntry,run_underlying hT,MapKept.run_getObj_map hb,hK.K.check w false hlq,h2,hz,MapKept.run_setObj_map _ hb,Result.andThen,setBlock,goInt]
   .unfold sY;rw[h1];simp[hL]
   .unfold sY;rw[h1];intro x hx;rcases aS.1 hx with hx|hx
    .exact hok x hx
    obtain rfl:x=(q,zv):=by simpa using hx
    exact hq
   have e1:L.length=es.toList.length:=by have:=congrArg List.length hL;simpa using this.symm
   refine⟨⟨kyV q,zv,clock⟩,?_,rfl⟩;unfold xf;rw[h1];show(es.push _).toList[L.length]? =_;rw[e1];simp
  have hj:es[j]? =some e0:=by simpa using h3
  have hkeyf:∀e',es[j]? =some e'->({e' with key:=kyV q}:MapEntry).key=e'.key:=λe' he'=>by rw[hj]at he';cases he';exact h4.symm
  have hset:(es.modify j λe'=>{e' with key:=kyV q}).toList=es.toList.set j {e0 with key:=kyV q}:=by rw[Array.toList_modify,ChangeMaps.modify_eq_set _ _ _ _ h3]
  refine⟨setBlock w b (.map (es.modify j λe'=>{e' with key:=kyV q}) clock),e0.born,?_,iC hb,_,_,(heap_set hb).1,stamped_modify hs _ _ (λ_ _=>rfl) (λe' _ he'=>hkeyf e' he'),?_,?_,?_⟩
  .rw[qk h1 h5];simp[Instr.mapEntry,run_underlying hT,MapKept.run_getObj_map hb,hK.K.check w false hlq,h2,hj,h4,hK.K.stays w hlq,MapKept.run_setObj_map _ hb,Result.andThen,setBlock,goInt]
  .unfold sY;rw[h1,hset,List.map_set,hL];dsimp only;have h6:(L.map λx=>(kyV x.1,x.2))[j]? =some (kyV q,e0.val):=by rw[bh,h5];rfl
   apply List.ext_getElem?;intro i;rw[List.getElem?_set];by_cases hij:j=i
   .subst hij;have hjl:=(au.1 h6).1;rw[if_pos rfl,if_pos hjl,h6]
   rw[if_neg hij]
  .unfold sY;rw[h1];exact hok
  refine⟨{e0 with key:=kyV q},?_,rfl⟩;unfold xf;rw[h1,hset];show(es.toList.set j _)[j]? =_;rw[List.getElem?_set_self (au.1 h3).1]
 obtain⟨w',st,h1,h2,h3⟩:=key;unfold Oper.wp;have hr:(execOp a.eval ⟨d,.mapEntry T x y,ty,pos,af,gd⟩).run C.P w= .ok (.value (.tuple #[gq L q zv,.int .i64 (st:Int)])) w':=by simp[execOp,hf.ev hx,hf.ev hy,h1]
 rw[hr];exact h _ _ _ ⟨st,rfl,rfl⟩ (hi.upd (hu _) h2 (lY h2 (by simp[bL.bs]) h3 (λb hb=>Or.inl hb))) (λe=>by cases e)
theorem FO{v0:Value}(hj:L[j]? =some (q,v0))(hx:ev fr x=some (.map (some b)))(hy:ev fr y=some (.int .i64 (st:Int)))(hz:ev fr z=some v)(hu:At cs (meC b L j st) mk):
  OpT C ⟨d,.entryStore T x y z,ty,pos,af,gd⟩ fr cs true (λu cs'=>u=undef/\cs'=mk (mpc b (L.set j (q,v)))):=λa w hf hi next Q h=>by
 obtain⟨es,clock,hb,hs,hL,hok,e0,he0,rfl⟩:=(show Jb b L j st w from hi.get hu.has);have hji:es[j]? =some e0:=by simpa using he0
 have hf0:es.findIdx? (λe=>((e.born:Nat):Int)==(e0.born:Int))=some j:=by
  rw[Array.findIdx?_eq_some_iff_getElem];obtain⟨hjl,hje⟩:=Array.getElem?_eq_some_iff.1 hji;refine⟨hjl,by simp[hje],λi hi=>?_⟩;simp only[Bool.not_eq_true,beq_eq_false_iff_ne,ne_eq];intro hbe;have hil:i<es.size:=by omega
  have e1:es[i]=e0:=born_inj hs.2.1 cE (aD he0) Wq1;have e2:es.toList[i]? =some e0:=by simp[hil,e1]
  have:=nO hs e2 he0 rfl;omega
 have jy:(Instr.entryStore T (.map (some b)) (.int .i64 (e0.born:Int)) v).run C.P w= .ok () (setBlock w b (.map (es.modify j λe=>{e with val:=v}) clock)):=by
  have h0:(asInt (Value.int .i64 (e0.born:Int))).run C.P w= .ok (e0.born:Int) w:=rfl;simp[Instr.entryStore,MapKept.run_getObj_map hb,h0,hf0,MapKept.run_setObj_map _ hb,Result.andThen,setBlock]
 have hset:(es.modify j λe=>{e with val:=v}).toList=es.toList.set j {e0 with val:=v}:=by rw[Array.toList_modify,ChangeMaps.modify_eq_set _ _ _ _ he0]
 have hm:nv b (L.set j (q,v)) (setBlock w b (.map (es.modify j λe=>{e with val:=v}) clock)):=by
  refine⟨_,clock,(heap_set hb).1,stamped_modify hs _ _ (λ_ _=>rfl) (λ_ _ _=>rfl),?_,?_⟩
  .rw[hset,List.map_set,List.map_set,hL];obtain⟨q',hq',hk'⟩:=es_at hL he0;rw[hj]at hq';cases hq'
   rw[hk']
  intro x hx;rcases List.mem_or_eq_of_mem_set hx with hx|rfl
  .exact hok x hx
  exact hok (q,v0) (aD hj)
 have hr:(execOp a.eval ⟨d,.entryStore T x y z,ty,pos,af,gd⟩).run C.P w= .ok .skip (setBlock w b (.map (es.modify j λe=>{e with val:=v}) clock)):=by simp[execOp,hf.ev hx,hf.ev hy,hf.ev hz,jy]
 unfold Oper.wp;rw[hr];exact h _ _ _ ⟨rfl,rfl⟩ (hi.upd (hu _) (iC hb) (lY (iC hb) (by simp[bL.bs]) hm (λb hb=>Or.inl hb))) (λe=>by cases e)
end
open Go.RowKit
theorem L6{a:Int}(h:0<=a/\a<=4294967295):(Lit.int .u32 a).wf=true:=by
 have h1:IntKind.u32.min=0:=by decide
 have h2:IntKind.u32.max=4294967295:=by decide
 simp[Lit.wf,h1,h2];omega
theorem tA{P:Program}{d:Nat}{t:TypeId}{a:Int}(ht:P.underlying t=some (.int .u32))(ha:(Lit.int .u32 a).wf=true):P.keyLits (d+1) t [.int .u32 a]=some [.int .u32 a]:=by
 simp[Program.keyLits,ht,ha]
theorem AQ{P:Program}{d:Nat}{k:TypeId}{f1 f2:Field}{a b:Int}(hk:P.underlying k=some (.struct #[f1,f2]))(hc:P.cellsOf k=2)(hn:(#[f1,f2]:Array Field).all (·.name != "_")=true)
  (h1:P.underlying f1.type=some (.int .u32)) (h2:P.underlying f2.type=some (.int .u32)) (o1:f1.offset=0) (o2:f2.offset=1) (c1:P.cellsOf f1.type=1) (c2:P.cellsOf f2.type=1) (ha:(Lit.int .u32 a).wf=true) (hb:(Lit.int .u32 b).wf=true):
  P.keyLits (d+2) k [.int .u32 a,.int .u32 b]=some [.int .u32 a,.int .u32 b]:=by
 unfold Program.keyLits;rw[hk];have e1:[Value.int .u32 a,.int .u32 b].length=P.cellsOf k/\(#[f1,f2]:Array Field).all (·.name != "_")=true:=⟨by rw[hc];rfl,hn⟩;show(if _ then _ else none)=_;rw[if_pos e1];show((([f1,f2]:List Field).mapM λf=>P.keyLits (d+1) f.type (([Value.int .u32 a,.int .u32 b].drop f.offset).take (P.cellsOf f.type))).map List.flatten)=_;simp only[List.mapM_cons,List.mapM_nil,o1,o2,c1,c2,List.drop_zero,List.drop_succ_cons,List.take_succ_cons,List.take_zero,tA h1 ha,tA h2 hb,Option.bind_eq_bind,Option.bind_some,Option.pure_def,Option.map_some]
 rfl
theorem G8{P:Program}{n:Nat}{k:TypeId}{f1 f2:Field}{q:Ky}(hs:P.types.size=n+1)(hk:P.underlying k=some (.struct #[f1,f2]))(hkt:P.keyType k=true)(hf:(kyV q).formed P k=true)(hc:P.cellsOf k=2)(hn:(#[f1,f2]:Array Field).all (·.name != "_")=true)
  (h1:P.underlying f1.type=some (.int .u32)) (h2:P.underlying f2.type=some (.int .u32)) (o1:f1.offset=0) (o2:f2.offset=1) (c1:P.cellsOf f1.type=1) (c2:P.cellsOf f2.type=1) (hq:lc q):∃l,keyOf P k (kyV q)=some l:=by
 refine⟨.string (keyBytes [.int .u32 q.1,.int .u32 q.2]),?_⟩;unfold keyOf;rw[hk];show(if _ then _ else none)=_;rw[if_pos (by rw[hkt,hf];rfl),hs];show(P.keyLits (n+2) k [.int .u32 q.1,.int .u32 q.2]).map _=_;rw[AQ hk hc hn h1 h2 o1 o2 c1 c2 (L6 hq.1) (L6 hq.2)]
 rfl
def MJ(P:Program)(k:Nat)(T:TypeId)(a b:Value)(r:Bool):Prop:=∀w:World,(Op.equalIn k T a b).run P w= .ok r w
def LZ(P:Program)(k:Nat)(xs ys:Array Value)(fs:List Field)(r:Bool):Prop:=∀w:World,(Op.eqFields k xs ys fs).run P w= .ok r w
section
variable {P:Program} {k:Nat} {T:TypeId}
theorem LZ.nil{xs ys:Array Value}:LZ P k xs ys [] true:=λw=>rfl
theorem LZ.cons{xs ys:Array Value}{f:Field}{fs:List Field}{a b:Value}{r1 r2:Bool}(hn:f.name≠ "_")(ha:∀w,(part f.type xs f.offset).run P w= .ok a w)(hb:∀w,(part f.type ys f.offset).run P w= .ok b w)(he:MJ P k f.type a b r1)(h:LZ P k xs ys fs r2):LZ P k xs ys (f::fs) (r1&&r2):=λw=>by
 cases r1 with
 |true=>
  simp only[Op.eqFields,if_pos hn,Sem.run_bind,ha w,hb w,Result.andThen_ok,he w,Bool.not_true,Bool.false_eq_true,if_false];exact h w
 |false=>simp[Op.eqFields,if_pos hn,Sem.run_bind,ha w,hb w,Result.andThen_ok,he w]
theorem MJ.int{kd kd':IntKind}{a b:Int}(h:P.underlying T=some (.int kd')):MJ P (k+1) T (.int kd a) (.int kd b) (a==b):=λw=>by
 rw[run_equalIn_int w k T kd kd' a b h]
theorem MJ.struct{xs ys:Array Value}{r:Bool}(h:P.underlying T=some (.struct (P.fieldsOf T)))(hp:P.stoodInHeld T=false)(hf:LZ P k xs ys (P.fieldsOf T).toList r):MJ P (k+1) T (.agg xs) (.agg ys) r:=λw=>by
 rw[run_equalIn_struct w k T xs ys h hp];exact hf w
end
section
variable {C:Cx} {fr:Fr} {d:Option Nat} {T T':TypeId} {x y:Operand} {ty:TypeId} {pos:String} {af:Array Edge} {gd:Option (Nat×Bool)} {g r:Bool}
theorem EW{xs ys:Array Value}(hm:C.P.eqGuardType C.P.depth T=false)(he:MJ C.P 10000 T (.agg xs) (.agg ys) r)(hx:Ev fr g x (.agg xs))(hy:Ev fr g y (.agg ys)):OpY C ⟨d,.binOp .eql T x y T',ty,pos,af,gd⟩ fr g Any (.bool r):=λA w hf _ hg=>by
 simp[execOp,hx.eval hf hg,hy.eval hf hg,run_eqGuard_agg w _ _ _ _ _ _ hm,run_eql_struct,he w,Result.andThen]
end
end Go.Ink
namespace Go.Proofs.YtkegldppffignaaGreatDoor
open Go.RowKit Go.Ink Go.Proofs.Tryz
theorem AP(p q:Ky):MJ prog 10000 134 (.agg #[.int .u32 p.1,.int .u32 p.2]) (.agg #[.int .u32 q.1,.int .u32 q.2]) (p==q):=by
 have h:MJ prog 10000 134 (.agg #[.int .u32 p.1,.int .u32 p.2]) (.agg #[.int .u32 q.1,.int .u32 q.2]) ((p.1==q.1)&&((p.2==q.2)&&true)):=
  .struct rfl (by kernel_rfl) (LZ.cons Wq5 Zrf Zrf (.int rfl) (LZ.cons Wq5 Zrf Zrf (.int rfl) LZ.nil))
 rw[Bool.and_true]at h;exact h
theorem tz:prog.eqGuardType prog.depth 134=false:=by kernel_rfl
theorem KU:∃f1 f2:Field,prog.underlying 134=some (.struct #[f1,f2])/\(#[f1,f2]:Array Field).all (·.name != "_")=true/\prog.underlying f1.type=some (.int .u32)/\prog.underlying f2.type=some (.int .u32)/\f1.offset=0/\f2.offset=1/\prog.cellsOf f1.type=1/\prog.cellsOf f2.type=1:=
 ⟨_,_,rfl,by kernel_rfl,rfl,rfl,rfl,rfl,by kernel_rfl,by kernel_rfl⟩
theorem keyKind:prog.keyType 134=true:=by kernel_rfl
theorem Cg:prog.cellsOf 134=2:=by kernel_rfl
theorem Ms:(134:TypeId)<prog.types.size:=of_decide_eq_true (by kernel_rfl)
theorem keyWide:(match prog.underlying 134 with|some (.array _ _)|some (.struct _)=>true|_=>false)=true:=by kernel_rfl
theorem yM:qM prog 134:=by
 refine⟨Maps.Keyed.of_law (deep_law_laid AO (m:=2) Wq1 Ms (by kernel_rfl) keyWide),λq hq=>?_⟩;obtain⟨f1,f2,hu,h1,h2,h3,h4,h5,h6,h7⟩:=KU;obtain⟨n,hn⟩:∃n,prog.types.size=n+1:=⟨prog.types.size - 1,by have:(134:Nat)<prog.types.size:=Ms;omega⟩;exact G8 hn hu keyKind (by simp[kyV,Value.formed,hu,Cg]) Cg h1 h2 h3 h4 h5 h6 h7 hq
end Go.Proofs.YtkegldppffignaaGreatDoor
