/- Lemmas. -/
import Derived.Test.YtepfimeihngjoaaGreatDoorXbh
import Derived.Test.YtepfimeihngjoaaGreatDoorXbi
set_option linter.all false
set_option maxRecDepth 100000
set_option maxHeartbeats 4000000
namespace Go.Ink
open List renaming length→J, replicate→R9
open Go.RowKit
section
variable{C:Cx}{Q:lK}{fr:Fr}{cs:List bJ}{ops:Array Oper}{d:Nat}{ty T:TypeId}{pos:String}{af:Array Edge}{x:Operand}{St:Dr}{fuel:Nat}{listed:Array Bool}
variable{i:Nat}
theorem C0{bb t:Nat}{xs:List Value}(hi:ops[i]? =some ⟨some d,.load T x,ty,pos,af,none⟩)
  (hc:Vk cs (row bb xs t)) (hT:∀w,(isAgg T).run C.P w= .ok true w) (hs:∀w,(sizeOf T).run C.P w= .ok (J xs) w) (hx:Ev fr true x (.p bb)) (hd:Nat.blt d C.N=true)
  (h:WA C St ops Q fuel (listed.setIfInBounds i true) ((d,.agg xs.toArray)::fr) cs):WI C St ops Q fuel listed i fr cs:=un hi (bX hT hs hx) (vx hc) hd h
end
end Go.Ink
namespace Go.Ink
open List renaming length→J
open IntKind renaming wrap→V9
open Go.RowKit Go.Proofs.Tryz
variable{w:World}{n:Nat}
variable{i:Nat}{listed:Array Bool}
variable{ops:Array Oper}
section
variable{C:Cx}{Q:lK}{fr:Fr}{cs:List bJ}{ops:Array Oper}{d:Nat}{op:Op}{ty:TypeId}{pos:String}{af:Array Edge}{gd:Option (Nat×Bool)}{V:World->Prop}{v:Value}{g:Bool}{St:Dr}{i:Nat}{s:List (Nat×Nat)}
theorem wsi_y(hi:ops[i]? =some ⟨some d,op,ty,pos,af,gd⟩)(hg:bN ops fr ⟨some d,op,ty,pos,af,gd⟩ g)(hy:Ve C ⟨some d,op,ty,pos,af,gd⟩ fr g V v)(hV:∀w,Inv C.w0 C.S cs w->V w)(hd:Nat.blt d C.N=true)
  (h:WS C St ops Q s ((d,bif g then v else undef)::fr) cs):WSI C St ops Q i s fr cs:=λfuel listed h1 h2 h3 h4=>wi_y hi hg hy hV hd (h fuel _ h1 h2 h3 h4)
end
section
attribute [local irreducible] Ve bN
def St.trim(s:St):St:={s with d:=s.d.take 16,r:=s.r.take 16,flags:=s.flags%16,count:=s.count%1099511627776}
theorem trim_ok(s:St)(hs:s.wf)(Ad Ar:Oa)(cd cr:Nat)(w:World)(h:iL w s Ad Ar cd cr):UW prog 33 [sv s Ad cd Ar cr] w [] (CK s.trim):=by
 obtain⟨f1,f2⟩:=hs.flags;obtain⟨c1,c2⟩:=hs.count;have hcd:=h.d.cap;have hcr:=h.r.cap;refine UV func33 ntmps33 ?_;refine An ?_;refine ZO λb1=>?_;refine ZN λb2=>?_
 refine UQ ?_;refine Q2 ?_;rintro _ _ ⟨_,⟨A1,c1',A2,c2',rfl,rfl⟩,rfl⟩;refine eU (λw hi=>(hi.rd (UJ (Vf s A1 c1'))).cap) (λhcap1=>?_);refine eU (λw hi=>(hi.rd (UJ (Vj s A2 c2'))).cap) (λhcap2=>?_);refine ZM ?_;refine yh ?_ ?_<;>intro hc2
 .simp only[ai]at hc2;refine Z9 ?_;refine UQ ?_;refine pt (c:=Vf s A1 c1') (c':=Vf s.trim A1 c1') Za I (λw h=>AR h) (UH ?_ ?_)<;>intro hc4
  .simp only[ai]at hc4;refine Z9 ?_;refine Rt ?_;refine UU ?_;refine Rw ?_;have e1:J s.trim.d=16:=by simp[St.trim];omega
   have e2:J s.trim.r=16:=by simp[St.trim];omega
   refine⟨A1,c1',A2,c2',?_,I⟩;unfold sv;rw[e1,e2]
   rfl
  simp only[aa]at hc4;refine Rt ?_;refine UU ?_;refine Rw ?_;have e1:J s.trim.d=16:=by simp[St.trim];omega
  have e2:J s.trim.r=J s.r:=by simp[St.trim];omega
  refine⟨A1,c1',A2,c2',?_,I⟩;unfold sv;rw[e1,e2]
  rfl
 simp only[aa]at hc2;refine UQ ?_;refine pt (c:=Vf s A1 c1') (c':=Vf s.trim A1 c1') Za I (λw h=>AR h) (UH ?_ ?_)<;>intro hc4
 .simp only[ai]at hc4;refine Z9 ?_;refine Rt ?_;refine UU ?_;refine Rw ?_;have e1:J s.trim.d=J s.d:=by simp[St.trim];omega
  have e2:J s.trim.r=16:=by simp[St.trim];omega
  refine⟨A1,c1',A2,c2',?_,I⟩;unfold sv;rw[e1,e2]
  rfl
 simp only[aa]at hc4;refine Rt ?_;refine UU ?_;refine Rw ?_;have e1:J s.trim.d=J s.d:=by simp[St.trim];omega
 have e2:J s.trim.r=J s.r:=by simp[St.trim];omega
 refine⟨A1,c1',A2,c2',?_,I⟩;unfold sv;rw[e1,e2]
 rfl
theorem wf_u64{n:Int}(h:(Lit.int .u64 n).wf=true):0<=n/\n<=18446744073709551615:=by
 simp only[Lit.wf,ay,ai]at h;have h1:IntKind.u64.min=0:=rfl;have h2:IntKind.u64.max=18446744073709551615:=rfl;omega
variable{W:World}{t:TypeId}{c:Value}
theorem IP(ht:prog.underlying t=some .bool)(h:VE prog W t [c]):∃n,c= .bool n:=by
 obtain⟨n,h1⟩:=h.bool ht
 grind
set_option maxRecDepth 100000 in
theorem H0{v:Value}(h:tK prog W 36 v):∃s Ad cd Ar cr,v=sv s Ad cd Ar cr/\s.wf/\iL W s Ad Ar cd cr:=by
 obtain⟨cs,rfl,hl,hf⟩:=h.struct I;have hl:J cs=16:=hl
 match cs,hl with
 |[c0,c1,c2,c3,c4,c5,c6,c7,c8,c9,c10,c11,c12,c13,c14,c15],_=>
  have k0:VE prog W _ [c0]:=hf 0 _ I;have k1:VE prog W _ [c1]:=hf 1 _ I;have k2:VE prog W _ [c2]:=hf 2 _ I;have k3:VE prog W _ [c3]:=hf 3 _ I;have k4:VE prog W _ [c4]:=hf 4 _ I;have k5:VE prog W _ [c5]:=hf 5 _ I;have k6:VE prog W _ [c6]:=hf 6 _ I;have k7:VE prog W _ [c7]:=hf 7 _ I;have k8:VE prog W _ [c8]:=hf 8 _ I;have k9:VE prog W _ [c9]:=hf 9 _ I;have k10:VE prog W _ [c10]:=hf 10 _ I;have k11:VE prog W _ [c11]:=hf 11 _ I;have k12:VE prog W _ [c12]:=hf 12 _ I;have k13:VE prog W _ [c13]:=hf 13 _ I;have k14:VE prog W _ [c14]:=hf 14 _ I;have k15:VE prog W _ [c15]:=hf 15 _ I;obtain⟨n0,rfl,m0⟩:=x8 I k0;obtain⟨A1,d1,x1,e1,r1,b1,z1⟩:=k1.ints (e:=32) (k:= .u32) I I I;obtain rfl:c1=_:=by simpa using e1
  obtain⟨A2,d2,x2,e2,r2,b2,z2⟩:=k2.ints (e:=32) (k:= .u32) I I I;obtain rfl:c2=_:=by simpa using e2
  obtain⟨n3,rfl,m3⟩:=x8 I k3;obtain⟨n4,rfl⟩:=IP I k4;obtain⟨n5,rfl⟩:=IP I k5;obtain⟨n6,rfl⟩:=IP I k6;obtain⟨n7,rfl,m7⟩:=x8 I k7;obtain⟨n8,rfl,m8⟩:=x8 I k8;obtain⟨n9,rfl,m9⟩:=x8 I k9;obtain⟨n10,rfl,m10⟩:=x8 I k10;obtain⟨n11,rfl,m11⟩:=x8 I k11;obtain⟨n12,rfl⟩:=IP I k12;obtain⟨n13,rfl⟩:=IP I k13;obtain⟨n14,rfl,m14⟩:=x8 I k14;obtain⟨n15,rfl⟩:=IP I k15;have hb:prog.bytesOf 32=4:=by kernel_rfl
  rw[hb]at b1 b2;refine⟨⟨n0,x1,x2,n3,n4,n5,n6,n7,n8,n9,n10,n11,n12,n13,n14,n15⟩,A1,d1,A2,d2,I,⟨lR m0,lR m3,lR m7,lR m8,lR m9,lR m10,lR m11,wf_u64 m14,λx hx=>lR (z1 x hx),λx hx=>lR (z2 x hx)⟩,r1,r2,?_,?_⟩
  .have:=r1.cap;grind
  have:=r2.cap;grind
end
end Go.Ink
namespace Go.Ink
open List renaming length→J
open Go.RowKit
section
variable{C:Cx}{fr:Fr}{cs:List bJ}{d:Option Tmp}{ty:TypeId}{pos:String}{af:Array Edge}{gd:Option (Nat×Bool)}{x:Operand}
variable{l:List Operand}{vs fs caps:List Value}{ats:Array TypeId}
theorem J8{f:FuncId}{K:Value->List bJ->Prop}(hx:ev fr x=some (.func (.func f) fs.toArray caps.toArray))(hl:evs fr l=some vs)(hc:∀args w,(callFunc f args).run C.P w= .ok (.enter f args) w)
  (h:∀w,Inv C.w0 C.S cs w->UW C.P f (fs++vs++caps) w [] K):
  VU C ⟨d,.call {callee:= .value x,args:=l.toArray,argTypes:=ats},ty,pos,af,gd⟩ fr cs false (λv cs'=>∃news,K v news/\cs'=cs++news):=λa w hf hinv next Q hn=>by
 unfold Oper.wp;rw[AT hf hx hl hc];refine Calls.mono (h w hinv) λe w' hp=>?_
 obtain⟨v,cout,rfl,hk,hi⟩:=hp;exact hn _ _ _ ⟨cout,hk,I⟩ (hinv.more hi) (λ_=>yj.T1 hi.To)
end
end Go.Ink
namespace Go.Ink
open List renaming length→J
open IntKind renaming wrap→V9
open Go.RowKit Go.Proofs.Tryz
theorem St.tr_wf{s:St}(h:s.wf):s.trim.wf:=by
 obtain⟨f0,f1⟩:=h.flags;obtain⟨c0,c1⟩:=h.count;exact⟨h.pc,⟨by show 0<=s.flags%16;omega,by show s.flags%16<=_;omega⟩,h.root,h.vec,h.epc,h.SU,h.addr,⟨by show 0<=s.count%1099511627776;omega,by show s.count%1099511627776<=_;omega⟩,
  λx hx=>h.d x (aM hx),λx hx=>h.r x (aM hx)⟩
theorem St.mkr{s:St}(h1:J s.d<=16)(h2:J s.r<=16)(h3:s.flags<=15):s.right=true:=by
 simp only[St.right,ay,ai];omega
theorem St.tr_right{s:St}:s.trim.right=true:=
 St.mkr (by simp[St.trim];omega) (by simp[St.trim];omega) (by show s.flags%16<=15;omega)
end Go.Ink
namespace Go.Ink
open List renaming length→J
open IntKind renaming wrap→V9
open Go.RowKit
variable{n:Nat}
theorem G18.to25{s:St}{U:UI}{d:UF}(h:G18 n 0 s U d):WQ n 0 s U d:=⟨h.g,h.m,h.i,h.o⟩
end Go.Ink
namespace Go.Proofs.YtepfimeihngjoaaGreatDoor
open List renaming length→J
open IntKind renaming wrap→V9
open Go.RowKit Go.Ink Go.Proofs.Tryz
attribute [local irreducible] Ve bN
def NS(cin:List bJ)(s:St)(X V:dz):Prop:=∀w,(dm cin).ok w->iL w s X.Ad X.Ar X.cd X.cr/\iL w s V.Ad V.Ar V.cd V.cr
theorem two_one{s:St}(h:s.right=true)(X:dz):NS [Vf s X.Ad X.cd,Vj s X.Ar X.cr] s X X:=λw hw=>by
 obtain⟨hd16,hr16, -⟩:=St.fits h;have h1:=oJ hw;have h2:iL w s X.Ad X.Ar X.cd X.cr:=⟨cY (h1 _ (bn ..)),cY (h1 _ (aW _ (bn ..))),by omega,by omega⟩;exact⟨h2,h2⟩
theorem two_two{s:St}(h:s.right=true)(X V:dz):NS [Vf s X.Ad X.cd,Vj s X.Ar X.cr,Vf s V.Ad V.cd,Vj s V.Ar V.cr] s X V:=λw hw=>by
 obtain⟨hd16,hr16, -⟩:=St.fits h;have h1:=oJ hw;exact⟨⟨cY (h1 _ (bn ..)),cY (h1 _ (aW _ (bn ..))),by omega,by omega⟩,⟨cY (h1 _ (aW _ (aW _ (bn ..)))),cY (h1 _ (aW _ (aW _ (aW _ (bn ..))))),by omega,by omega⟩⟩
abbrev XD:dz:=⟨none,0,none,0⟩
abbrev WN:dJ:=⟨none,0,none,0⟩
theorem pC(w:World)(sz:Nat):U5 w sz none 0 0 []:=⟨by simp,aK _,by decide,λ_=>⟨I,I⟩,λ_ h=>by cases h⟩
end Go.Proofs.YtepfimeihngjoaaGreatDoor
namespace Go.Proofs.YtepfimeihngjoaaGreatDoor
open List renaming length→J
open Go.RowKit Go.Ink Go.Proofs.Tryz
attribute [local irreducible] Ve bN
variable{W:World}
set_option maxRecDepth 100000 in
theorem H7{es:List Value}(h:VE prog W 160 es):∃a:Xz,es=a.cells/\a.ok W:=by
 obtain⟨hl,hf⟩:=h.struct I;have hl:J es=3:=hl
 match es,hl with
 |[c0,c1,c2],_=>
  have k0:VE prog W _ [c0]:=hf 0 _ I;have k1:VE prog W _ [c1]:=hf 1 _ I;have k2:VE prog W _ [c2]:=hf 2 _ I;obtain⟨n0,rfl,m0⟩:=x8 I k0;obtain⟨n1,rfl,m1⟩:=x8 I k1;obtain⟨A2,d2,x2,e2,r2,b2,z2⟩:=k2.ints (e:=5) (k:= .u8) I I I;obtain rfl:c2=_:=by simpa using e2
  exact⟨⟨n0,n1,A2,d2,x2⟩,I,⟨r2,λx hx=>Jy (z2 x hx)⟩⟩
set_option maxRecDepth 100000 in
theorem DP{v:Value}(h:tK prog W 72 v):∃(A:Oa) (c:Nat) (l:List Xz),v= .slice A (J l) c/\U5 W 3 A (J l) c (l.flatMap Xz.cells)/\∀a,a∈l->a.ok W:=by
 obtain⟨A,c,xs,h1,h2,h3,h4⟩:=tK.rows (e:=160) I I Xz.Tm ⟨0,0,none,0,[]⟩ (λes he=>H7 he) h;exact⟨A,c,xs,h1,h2,h3⟩
theorem H8{v:Value}(h:tK prog W 59 v):∃(A:Oa) (c:Nat) (l:List Bool),v= .slice A (J l) c/\U5 W 1 A (J l) c (l.map Value.bool):=by
 obtain⟨A,c,xs,h1,h2,h3,h4⟩:=tK.rows (e:=4) (f:=λb:Bool=>[Value.bool b]) (Q:=λ_=>True) I I ir false (λes he=>by obtain⟨b,rfl⟩:=he.bool I;exact⟨b,I,trivial⟩) h;refine⟨A,c,xs,h1,?_⟩;rw[show xs.map Value.bool=xs.flatMap (λb:Bool=>[Value.bool b]) by clear h1 h2 h3 h4;induction xs with|nil=>rfl|cons a l ih=>rw[List.map_cons,List.flatMap_cons,<-ih];rfl];exact h2
abbrev zS(t:St)(pc:Int):St:=⟨pc,t.d,t.r,t.flags,t.SQ,t.S1,t.ie,t.root%256,t.vec,t.epc,t.SU,t.addr,t.S6,t.eie,t.count,t.halted⟩
theorem bytS_wf{t:St}{pc:Int}(h:t.wf)(hp:u32 pc):(zS t pc).wf:=by
 obtain⟨r0,r1⟩:=h.root;exact⟨hp,h.flags,⟨by show 0<=t.root%256;omega,by show t.root%256<=_;omega⟩,h.vec,h.epc,h.SU,h.addr,h.count,h.d,h.r⟩
end Go.Proofs.YtepfimeihngjoaaGreatDoor
