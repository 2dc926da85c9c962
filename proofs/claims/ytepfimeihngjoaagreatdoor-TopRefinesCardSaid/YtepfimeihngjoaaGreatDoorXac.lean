/- Lemmas. -/
import Derived.Test.YtepfimeihngjoaaGreatDoorXaa
import Derived.Laws.StructEq
import Derived.Test.YtepfimeihngjoaaGreatDoorProg
import Derived.Test.YtepfimeihngjoaaGreatDoorRows
import Derived.LaidMore
import Derived.OpenShut
import Derived.Handed
import Derived.Stop.Joined
import Derived.Lib.EndianBits
import Derived.ChangeKeysEq
import Derived.Maps.Range
import Derived.DeepKeys4
set_option linter.all false
set_option maxRecDepth 100000
set_option maxHeartbeats 4000000
namespace Go.Ink
open List renaming length→J
open IntKind renaming wrap→V9
open Go.RowKit Go.Proofs.Tryz
variable{i:Nat}{l:List Nat}
section
theorem ir.{u,v}{α:Sort u}{β:Sort v}{f g:α->β}(h:∀x,f x=g x:=by exact λ_=>I):∀x,f x=g x:=h
theorem Do{α:Type}(a:α):∃b,a=b:=⟨a,I⟩
end
structure St where
 pc:Int
 d:List Int
 r:List Int
 flags:Int
 SQ:Bool
 S1:Bool
 ie:Bool
 root:Int
 vec:Int
 epc:Int
 SU:Int
 addr:Int
 S6:Bool
 eie:Bool
 count:Int
 halted:Bool
def Vx(b:Bool):Int:=bif b then 1 else 0
def St.zero:St:=⟨0,[],[],0,false,false,false,0,0,0,0,0,false,false,0,false⟩
def St.S3(s:St)(SU addr:Int):St:=
 {s with epc:=s.pc,SU:=V9 .u32 SU,addr:=addr,S6:=s.SQ,eie:=s.ie,SQ:=true,ie:=false,pc:=s.vec}
def St.right(s:St):Bool:=decide ((J s.d:Int)<=16)&&decide ((J s.r:Int)<=16)&&decide (s.flags<=15)
def u32(x:Int):Prop:=0<=x/\x<=4294967295
def Vh(l:Li):Prop:=∀x,x∈l->0<=x/\x<=255
structure St.wf(s:St):Prop where
 pc:u32 s.pc
 flags:u32 s.flags
 root:u32 s.root
 vec:u32 s.vec
 epc:u32 s.epc
 SU:u32 s.SU
 addr:u32 s.addr
 count:0<=s.count/\s.count<=18446744073709551615
 d:∀x,x∈s.d->u32 x
 r:∀x,x∈s.r->u32 x
section
def St.Tu(s:St):List Int:=[Vx s.ie,Vx s.S1,s.root,s.vec,s.epc,s.SU,s.addr,Vx s.S6,Vx s.eie,V9 .u32 s.count,s.flags]
end
structure PA where
 i:Nat
 d:Nat
 zs:List Value
 T:TypeId
end Go.Ink
namespace Go.Ink
open List renaming length→J, replicate→R9
open IntKind renaming wrap→V9
open Go.RowKit Go.Proofs.Tryz
variable{j:Nat}{b:Bool}
structure eV(B ow pr:Li):Prop where
 b:J B=16384
 ow:J ow=256
 pr:J pr=4
def fP(ow:Li)(o:Int)(k:Nat):List Int:=((List.range k).filter (λf=>ow[f]? ==some o)).map (λf:Nat=>(f:Int))
theorem vy(ow:Li)(o:Int)(k:Nat):fP ow o (k+1)=fP ow o k++(bif ow[k]? ==some o then[(k:Int)]else[]):=by
 grind [fP,List.range_succ]
theorem Mc(ow:Li)(o:Int)(k:Nat):J (fP ow o k)<=k:=by
 grind [fP]
section
variable{n k:Nat}
structure fF where
 bp:Nat
 bt:Nat
 bf:Nat
 bg:Nat
 bm:Nat
 o:Nat
 n:Nat
 gw:List Int
 gB:List Int
 gp:List Int
def fF.oth(L:fF)(f:Nat):Bool:=match L.gw[f]? with|some x=>x != -1&&x !=(L.o:Int)|none=>false
structure UO where
 data:List Int
 SX:List Bool
structure SN where
 B:List Int
 ow:List Int
 pr:List Int
 fr:List Int
 gd:List Bool
structure eT(L:fF)(M:UO)(k:SN):Prop where
 pl:eV k.B k.ow k.pr
 o4:L.o<4
 n1:1<=L.n
 n64:L.n<=64
 fr:J k.fr=L.n
 gd:J k.gd=L.n
 dl:J M.data=L.n*64
 tl:J M.SX=64
 db:Vh M.data
 Tc:∀p,p<L.n->(k.fr[p]? =some (-1)/\∀j,j<64->M.data[p*64+j]? =some 0)\/(∃f:Nat,k.fr[p]? =some (f:Int)/\16<=f/\f<256/\k.ow[f]? =some (L.o:Int)/\∀j,j<64->k.B[f*64+j]? =M.data[p*64+j]?)
 inj:∀p q f:Nat,k.fr[p]? =some (f:Int)->k.fr[q]? =some (f:Int)->p=q
 held:∀f:Nat,f<256->(L.oth f=false/\k.ow[f]? =some (-1))\/(L.oth f=false/\k.ow[f]? =some (L.o:Int)/\∃p:Nat,k.fr[p]? =some (f:Int))\/(L.oth f=true/\k.ow[f]? =L.gw[f]? /\∀j,j<64->k.B[f*64+j]? =L.gB[f*64+j]?)
 prom:k.pr[L.o]? =some (L.n:Int)
 prs:k.pr=L.gp
 cap:L.n<=J ((List.range' 16 240).filter (λf=> !L.oth f))
section
theorem idx_of{l:Li}{f:Int}(h:f∈l):l[l.idxOf f]? =some f:=by
 grind
theorem LZ{l:Li}:∀{fs:List Nat},fs.Nodup->(∀f,f∈fs->((f:Nat):Int)∈l)->(fs.map λf:Nat=>l.idxOf (f:Int)).Nodup
 :=by intro y1 y2;induction y2<;>grind [idx_of]
end
def gB(d:Li)(a:Nat):Int:=d.getD a 0
variable{d:Li}{a:Nat}
theorem tf(h:a<J d):d[a]? =some (gB d a):=by simp[gB,h]
theorem fW(h:Vh d)(a:Nat):0<=gB d a/\gB d a<=255:=by
 unfold gB;by_cases hl:a<J d
 .rw[aS,ak hl];exact h _ (List.getElem_mem hl)
 grind
def sR(d:Li)(a:Nat):Nat->Int
 |0=>0
 |k+1=>sR d a k*256+gB d (a+(3 - k))
def lc(d:Li)(a:Nat):Int:=gB d a+256*gB d (a+1)+65536*gB d (a+2)+16777216*gB d (a+3)
theorem GS(d:Li)(a:Nat):sR d a 4=lc d a:=by
 simp[sR,lc];omega
theorem AC{d:Li}(h:Vh d)(a:Nat):∀k,0<=sR d a k/\sR d a k<256^k
 |0=>by simp[sR]
 |k+1=>by
  have h1:=AC h a k;have h2:=fW h (a+(3 - k))
  grind [sR]
theorem qY(h:Vh d)(a:Nat):u32 (lc d a):=by
 have h1:=fW h a;have h2:=fW h (a+1);have h3:=fW h (a+2);have h4:=fW h (a+3);unfold lc;exact⟨by omega,by omega⟩
theorem GR(h:Vh d)(a:Nat){k:Nat}(hk:k<4):bits .or .u32 (V9 .u32 (sR d a k*2^(min (8:Int).toNat IntKind.u32.bits))) (gB d (a+(3 - k)))=sR d a (k+1):=by
 have h1:=AC h a k;have h2:=fW h (a+(3 - k));simp only[sR];generalize sR d a k=v at h1;have hv:0<=v/\v<16777216:=by
  obtain rfl|rfl|rfl|rfl:k=0\/k=1\/k=2\/k=3:=by omega
  all_goals (simp at h1;omega)
 have e1:(2:Int)^(min (8:Int).toNat IntKind.u32.bits)=256:=rfl;rw[e1,u32_wrap_id _ O O];exact bits_join .u32 32 ne wraps_u32 8 (v*256) _ O O O O O O
def mC(v:Int)(k:Nat):Int:=v/256^k%256
theorem kG(v:Int)(k:Nat):0<=mC v k/\mC v k<=255:=by unfold mC;omega
theorem ur(v:Int){k:Nat}(hk:k<4):V9 .u8 (v.fdiv (2^(min (V9 .u32 (8*(k:Int))).toNat IntKind.u32.bits)))=mC v k:=by
 have e:∀n:Nat,v.fdiv (2^n)=v/2^n:=λn=>Int.fdiv_eq_ediv_of_nonneg v bZ
 rw[e,IntKind.wrap_u8];unfold mC;obtain rfl|rfl|rfl|rfl:k=0\/k=1\/k=2\/k=3:=by omega
 all_goals rfl
def UO.init(n:Nat)(b:Li):UO:=⟨b++R9 (n*64 - J b) 0,R9 64 false⟩
structure TE where
 valid:Bool
 vpn:Int
 pfn:Int
 bits:Int
structure TE.wf(e:TE):Prop where
 vpn:u32 e.vpn
 pfn:u32 e.pfn
 bits:u32 e.bits
def TE.zero:TE:=⟨false,0,0,0⟩
structure Tr where
 SU:Int
 addr:Int
def Tr.none:Tr:=⟨0,0⟩
def xE(b:Int)(SQ:Bool):Int:=bif SQ then b else bits .or .u32 b 16
def asked(kind:Int)(SQ:Bool):Int×Bool:=
 bif kind==1 then(xE 8 SQ,true)else bif kind==2 then(xE 2 SQ,true)else bif kind==3 then(xE 68 SQ,true)else(0,false)
def Vo(kind:Int):Int:=bif kind==1 then 7 else bif kind==2 then 8 else bif kind==3 then 9 else 0
def oP(kind:Int)(SQ:Bool):Int:=
 xE (bif kind==1 then bits .or .u32 1 8 else bif kind==2 then bits .or .u32 1 2 else bif kind==3 then bits .or .u32 1 4 else 1) SQ
def xl(T:List TE)(va:Nat):TE:=T.getD (va/64%16) TE.zero
def kN(e:TE)(va:Nat)(a:Int×Bool):Bool:=((!a.2|| !e.valid)||(e.vpn !=((va/64:Nat):Int)))||(bits .and .u32 e.bits a.1 !=a.1)
def o9(pfn:Int)(va:Nat):Int:=V9 .u32 (V9 .u32 (pfn*64)+((va%64:Nat):Int))
def pu(T:List TE)(va:Nat)(kind:Int)(SQ:Bool):Int×Bool:=
 bif kN (xl T va) va (asked kind SQ)then(0,false)else(o9 (xl T va).pfn va,true)
def iH(n:Nat)(d:Li)(a:Nat):Option Int:=bif decide (a+4<=n*64)then some (lc d a)else none
def Xw(root va:Nat):Nat:=root/64*64+4*(va/1024%16)
def Xt(e:Int)(va:Nat):Nat:=(e/256).toNat*64+4*(va/64%16)
def jj(l:Int)(kind:Int):Int:=bif kind==3 then bits .or .u32 (bits .or .u32 l 32) 64 else bits .or .u32 l 32
def leafE(va:Nat)(l:Int):TE:=⟨true,((va/64:Nat):Int),l/256,bits .and .u32 l 94⟩
structure UI where
 m:UO
 t:List TE
structure Sp where
 S1:Bool
 SQ:Bool
 root:Nat
def iG(a:Int):Bool:=decide (32768<=a)&&decide (a<33024)
theorem XH(a:Int)(n:Nat):a.fdiv (2^n)=a/2^n:=by grind
theorem pF{e:Int}(h:Vh d)(he:iH n d a=some e):u32 e/\a+4<=n*64:=by
 grind [iH,qY]
variable{va:Nat}
theorem dY(op:BinOp)(a b:Int):u32 (bits op .u32 a b):=by
 cases op<;>exact⟨by show 0<=V9 .u32 _;rw[au];omega,by show V9 .u32 _<=_;rw[au];omega⟩
theorem rB(l:Int)(kind:Int):u32 (jj l kind):=by
 grind [jj,dY]
theorem PM(h:va<=4294967295){l:Int}(hl:u32 l):(leafE va l).wf:=
 ⟨⟨by show(0:Int)<=((va/64:Nat):Int);omega,by show((va/64:Nat):Int)<=_;omega⟩,⟨by show 0<=l/256;have:=hl.1;omega,by show l/256<=_;have:=hl.1;have:=hl.2;omega⟩,dY .and _ _⟩
theorem TE.zero_wf:TE.zero.wf:=⟨⟨by decide,by decide⟩,⟨by decide,by decide⟩,⟨by decide,by decide⟩⟩
theorem u5(pfn:Int)(va:Nat):u32 (o9 pfn va)/\o9 pfn va%64=((va%64:Nat):Int):=by
 unfold o9;rw[au,au];exact⟨⟨by omega,by omega⟩,by omega⟩
structure oa(n:Nat)(va:Nat)(p:Int):Prop where
 u:u32 p
 m:p%64=((va%64:Nat):Int)
 r:p<((n*64:Nat):Int)\/iG p=true
def cU(va:Nat):Nat:=(va - va%64+64)%4294967296
theorem jt(va:Nat):cU va<=4294967295:=by unfold cU;omega
theorem BC(va:Nat):cU va%64=0:=by unfold cU;omega
def iN(a b:Int)(va j:Nat):Int:=bif decide (j<64 - va%64)then V9 .u32 (a+(j:Int))else V9 .u32 (b+((j - (64 - va%64):Nat):Int))
theorem pJ{a:Int}(h:iG a=false){n:Nat}{va:Nat}(hp:oa n va a):a<((n*64:Nat):Int):=by
 grind [hp.r]
def eh(d:Li):List Int->Int
 |[]=>0
 |a::l=>gB d a.toNat+256*eh d l
theorem ln{d:Li}(h:Vh d):∀l:List Int,0<=eh d l/\eh d l<256^J l
 |[]=>by simp[eh]
 |a::l=>by
  have h1:=fW h a.toNat;have h2:=ln h l
  grind [eh]
end
end Go.Ink
namespace Go.Ink
open List renaming length→J, replicate→R9
open IntKind renaming wrap→V9
open Go.RowKit Go.Proofs.Tryz
def vm(l:List Nat):Nat->Int
 |0=>0
 |k+1=>bits .or .u32 (vm l k) (V9 .u32 (1*2^(min (((l.getD k 0:Nat):Int)).toNat IntKind.u32.bits)))
def ju(l:List Nat):Int:=vm l (J l)
def iI(n SS a:Nat):Bool:= !((decide (16<=SS)||(a%64 !=0))||decide (n*64<=a))
section
def _root_.Go.Ink.ph(l:Li):List Int:=l++R9 (1024 - J l) 0
theorem jI(n k:Nat):((n:Int)==((k:Nat):Int))=(n==k):=by rw[Bool.eq_iff_iff];simp;omega
theorem Fy(n k:Nat):((n:Int) !=((k:Nat):Int))=(n !=k):=by rw[Bool.eq_iff_iff];simp;omega
theorem xY(n SS a:Nat):(((false||decide ((16:Int)<=SS))||(((a%64:Nat):Int) !=((0:Nat):Int)))||decide (((n*64:Nat):Int)<=a))= !iI n SS a:=by
 unfold iI;rw[Bool.not_not,bj,Fy,show decide ((16:Int)<=SS)=decide (16<=SS)from decide_eq_decide.2 O,show decide (((n*64:Nat):Int)<=a)=decide (n*64<=a)from decide_eq_decide.2 O]
structure UF where
 S7:Int
 mask:Int
 timer:Int
 out:List Int
 inp:List Int
 S8:List Int
 SS:Nat
 place:Nat
 status:Int
structure dJ where
 Ao:Option Addr
 co:Nat
 Ai:Option Addr
 ci:Nat
structure UF.wf(d:UF):Prop where
 Uo:Vh d.inp
 S8:J d.S8=1024
 TP:Vh d.S8
 SS:d.SS<=4294967295
 place:d.place<=4294967295
 inp:J d.inp<=1000000000
def je(a:Nat):Int:=V9 .u32 ((a:Int) - 32768)
def cE(d:UF)(k count:Int):(Int×Bool)×UF:=
 bif k==0 then((d.S7,true),d)else bif k==4 then((d.mask,true),d)else bif k==8 then((d.timer,true),d)else bif k==12 then((V9 .u32 count,true),d)else
 bif k==16 then((0,true),d)else bif k==40 then((0,true),d)else bif k==20 then((gB d.inp 0,true),{d with inp:=d.inp.tail})else bif k==24 then(((J d.inp:Int),true),d)else
 bif k==32 then(((d.SS:Int),true),d)else bif k==36 then(((d.place:Int),true),d)else bif k==44 then((d.status,true),d)else((0,false),d)
def zj(op:Int):Bool:=bif op==16 then true else bif op==17 then true else bif op==18 then true else bif op==19 then true else bif op==20 then true else bif op==21 then true else bif op==22 then true else bif op==23 then true else bif op==24 then true else bif op==25 then true else bif op==48 then true else bif op==49 then true else bif op==50 then true else bif op==51 then true else bif op==52 then true else bif op==53 then true else bif op==64 then true else bif op==65 then true else bif op==66 then true else bif op==67 then true else bif op==68 then true else bif op==69 then true else false
def u9(op:Int):Bool:=bif op==0 then true else bif op==1 then true else bif op==2 then true else bif op==3 then true else bif op==4 then true else bif op==5 then true else bif op==6 then true else bif op==7 then true else bif op==8 then true else bif op==32 then true else bif op==33 then true else bif op==34 then true else bif op==35 then true else bif op==36 then true else bif op==37 then true else bif op==38 then true else bif op==39 then true else bif op==40 then true else zj op
def cB(op:Int):Int:=bif op==1 then 2 else bif op==32 then 2 else bif op==33 then 2 else bif op==34 then 2 else bif op==35 then 2 else bif op==36 then 2 else bif op==37 then 2 else bif op==38 then 2 else bif op==66 then 2 else bif op==67 then 2 else bif op==2 then 5 else bif !u9 op then 0 else 1
def eJ(op n:Int):Bool:=bif cB op==0 then false else bif cB op==1 then n==0 else bif cB op==2 then decide (n<=255)else true
def dw(r:Int):Int:=bif bits .and .u32 r 2147483648 !=0 then bits .or .u32 (bif r==0 then bits .or .u32 0 1 else 0) 2 else bif r==0 then bits .or .u32 0 1 else 0
def di(a b:Int)(up:Bool):Int:=bif decide (32<=b)then 0 else bif up then V9 .u32 (a*2^(min b.toNat IntKind.u32.bits))else a.fdiv (2^(min b.toNat IntKind.u32.bits))
def mh(a b r f:Int)(c:Bool)(o:Int):Int:=bif o !=0 then bits .or .u32 (bif c then bits .or .u32 f 4 else f) 8 else bif c then bits .or .u32 f 4 else f
def kb(a b:Int):Int:=mh a b 0 (dw (V9 .u32 (a - b))) (decide (a<b)) (bits .and .u32 (bits .and .u32 (bits .xor .u32 a b) (bits .xor .u32 a (V9 .u32 (a - b)))) 2147483648)
def nR(a b:Int):Int:=mh a b 0 (dw (V9 .u32 (a+b))) (decide (V9 .u32 (a+b)<a)) (bits .and .u32 (bits .and .u32 (bits .xor .u32 a (V9 .u32 (a+b))) (bits .xor .u32 b (V9 .u32 (a+b)))) 2147483648)
def Aa(r:Int):Int×Int×Bool:=(r,dw r,true)
def hI(op a b:Int):Int×Int×Bool:=
 bif op==16 then(V9 .u32 (a+b),nR a b,true)else bif op==17 then(V9 .u32 (a - b),kb a b,true)else bif op==25 then(0,kb a b,true)else bif op==18 then Aa (bits .and .u32 a b)else bif op==19 then Aa (bits .or .u32 a b)else bif op==20 then Aa (bits .xor .u32 a b)else bif op==21 then Aa (di a b true)else bif op==22 then Aa (di a b false)else bif op==23 then Aa (V9 .u32 (a*b))else bif op==24 then(bif b==0 then(0,0,false)else Aa (V9 .u32 (a.tdiv b)))else(0,0,false)
def jN(b:Int):Int:=V9 .u32 (V9 .i32 (IntKind.i8.wrap b))
def bV(op:Int):(Nat×Nat)×(Nat×Nat):=
 bif op==1 then((0,1),(0,0))else bif op==2 then((0,1),(0,0))else bif op==66 then((0,1),(0,0))else bif op==3 then((1,2),(0,0))else bif op==4 then((1,0),(0,0))else bif op==40 then((1,0),(0,0))else bif op==67 then((1,0),(0,0))else bif op==68 then((1,0),(0,0))else bif op==5 then((2,2),(0,0))else bif op==6 then((2,3),(0,0))else bif op==7 then((1,0),(0,1))else bif op==8 then((0,1),(1,0))else bif op==16 then((2,1),(0,0))else bif op==17 then((2,1),(0,0))else bif op==18 then((2,1),(0,0))else bif op==19 then((2,1),(0,0))else bif op==20 then((2,1),(0,0))else bif op==21 then((2,1),(0,0))else bif op==22 then((2,1),(0,0))else bif op==23 then((2,1),(0,0))else bif op==24 then((2,1),(0,0))else bif op==25 then((2,0),(0,0))else bif op==49 then((2,0),(0,0))else bif op==51 then((2,0),(0,0))else bif op==53 then((2,0),(0,0))else bif op==48 then((1,1),(0,0))else bif op==50 then((1,1),(0,0))else bif op==52 then((1,1),(0,0))else bif op==38 then((0,0),(0,1))else bif op==39 then((0,0),(1,0))else((0,0),(0,0))
structure UG where
 s:St
 count:Int
 S3:Tr
 device:Bool
abbrev UG.wd(R:UG)(l:Li):UG:=⟨⟨R.s.pc,l,R.s.r,R.s.flags,R.s.SQ,R.s.S1,R.s.ie,R.s.root,R.s.vec,R.s.epc,R.s.SU,R.s.addr,R.s.S6,R.s.eie,R.s.count,R.s.halted⟩,R.count,R.S3,R.device⟩
abbrev UG.wr(R:UG)(l:Li):UG:=⟨⟨R.s.pc,R.s.d,l,R.s.flags,R.s.SQ,R.s.S1,R.s.ie,R.s.root,R.s.vec,R.s.epc,R.s.SU,R.s.addr,R.s.S6,R.s.eie,R.s.count,R.s.halted⟩,R.count,R.S3,R.device⟩
abbrev UG.wt(R:UG)(t:Tr):UG:=⟨R.s,R.count,t,R.device⟩
structure dz where
 Ad:Option Addr
 cd:Nat
 Ar:Option Addr
 cr:Nat
structure Jp where
 br:Nat
 u:Option Addr
 b:Option Addr
def UG.top(R:UG):Int:=R.s.d.getLastD 0
def UG.topR(R:UG):Int:=R.s.r.getLastD 0
def UG.pop(R:UG):UG:=R.wd R.s.d.dropLast
def UG.Ty(R:UG):UG:=R.wr R.s.r.dropLast
def UG.push(R:UG)(l:Li):UG:=R.wd (R.s.d++l)
abbrev UG.wpc(R:UG)(x:Int):UG:=⟨⟨x,R.s.d,R.s.r,R.s.flags,R.s.SQ,R.s.S1,R.s.ie,R.s.root,R.s.vec,R.s.epc,R.s.SU,R.s.addr,R.s.S6,R.s.eie,R.s.count,R.s.halted⟩,R.count,R.S3,R.device⟩
abbrev UG.wfl(R:UG)(x:Int):UG:=⟨⟨R.s.pc,R.s.d,R.s.r,x,R.s.SQ,R.s.S1,R.s.ie,R.s.root,R.s.vec,R.s.epc,R.s.SU,R.s.addr,R.s.S6,R.s.eie,R.s.count,R.s.halted⟩,R.count,R.S3,R.device⟩
variable{R:UG}
@[simp] theorem UG.top_wd (R:UG) (l:Li) (x:Int):(R.wd (l++[x])).top=x:=by simp[UG.top,List.getLastD_concat]
@[simp] theorem UG.pop_wd (R:UG) (l:Li) (x:Int):(R.wd (l++[x])).pop=R.wd l:=by simp[UG.pop]
@[simp] theorem UG.topR_wr (R:UG) (l:Li) (x:Int):(R.wr (l++[x])).topR=x:=by simp[UG.topR,List.getLastD_concat]
@[simp] theorem UG.popR_wr (R:UG) (l:Li) (x:Int):(R.wr (l++[x])).Ty=R.wr l:=by simp[UG.Ty]
variable{α:Type}
theorem bL(p:α->Prop){c:Bool}{x y:α}(hx:p x)(hy:p y):p (bif c then x else y):=by cases c<;>assumption
def UG.sp(R:UG):Sp:=⟨R.s.S1,R.s.SQ,R.s.root.toNat⟩
abbrev UG.wdv(R:UG)(t:Tr)(b:Bool):UG:=⟨R.s,R.count,t,b⟩
theorem tz{c:Bool}{x y:α}(h:c=true):(bif c then x else y)=x:=by rw[h];rfl
theorem lF{c:Bool}{x y:α}(h:c=false):(bif c then x else y)=y:=by rw[h];rfl
def iW(n:Nat)(M:UO)(a:Nat):Int×Bool:=bif decide (a+4<=n*64)then(lc M.data a,true)else(0,false)
structure eu where
 r:UG
 u:UI
 d:UF
end
end Go.Ink
namespace Go.Ink
open List renaming length→J
open Go.RowKit
theorem IG{w w':World}{a:Addr}(h:w'.heap[a.block]? =w.heap[a.block]?):w'.cell? a=w.cell? a:=by
 unfold World.cell?;rw[h]
theorem cell_lt{w:World}{a:Addr}{v:Value}(h:w.cell? a=some v):a.block<w.heap.size:=by
 unfold World.cell? at h;cases hb:w.heap[a.block]? with
 |none=>rw[hb]at h;cases h
 |some o=>exact(Array.getElem?_eq_some_iff.1 hb).1
theorem fw{α:Type}{f:α->List Value}{sz:Nat}(hf:∀a,J (f a)=sz):∀{xs:List α} {k i:Nat} {a:α} {v:Value},xs[k]? =some a->(f a)[i]? =some v->(xs.flatMap f)[k*sz+i]? =some v
 |[],k,i,a,v,h,_=>by simp at h
 |x::xs,0,i,a,v,h,h2=>by
  simp only[List.getElem?_cons_zero,bh]at h;subst h;have:=(aC.1 h2).1;rw[List.flatMap_cons,Nat.zero_mul,bC,List.getElem?_append_left this];exact h2
 |x::xs,k+1,i,a,v,h,h2=>by
  rw[List.flatMap_cons,List.getElem?_append_right (by rw[hf,Nat.succ_mul];omega),hf,show(k+1)*sz+i - sz=k*sz+i by rw[Nat.succ_mul];omega];exact fw hf (by simpa using h) h2
section
open Go.MapKept
open Go.ChangeMaps (setBlock)
open Go.Maps (Keyed)
abbrev Ky:=Int×Int
def lD(q:Ky):Prop:=(0<=q.1/\q.1<=4294967295)/\(0<=q.2/\q.2<=4294967295)
def cN{α:Type}(key:α->Ky)(k:Ky)(l:List α):Option Nat:=l.findIdx? λx=>key x==k
def qk{β:Type}(L:List (Ky×β))(k:Ky):List (Ky×β):=match cN (·.1) k L with
 |some j=>L.eraseIdx j
 |none=>L
theorem fJ{α:Type}{key:α->Ky}{k:Ky}{l:List α}{j:Nat}(h:cN key k l=some j):∃hj:j<J l,key l[j]=k:=by
 grind [cN,List.findIdx?_eq_some_iff_getElem]
theorem iF{α:Type}{key:α->Ky}{k:Ky}{l:List α}(h:cN key k l=none):∀x,x∈l->key x≠k:=by
 grind [cN]
end
end Go.Ink
namespace Go.Ink
open List renaming length→J, replicate→R9
open IntKind renaming wrap→V9
open Go.RowKit Go.Proofs.Tryz
abbrev St.Ts(s:St)(c:Int):St:=⟨s.pc,s.d,s.r,s.flags,s.SQ,s.S1,s.ie,s.root,s.vec,s.epc,s.SU,s.addr,s.S6,s.eie,c,s.halted⟩
section
abbrev St.next(s:St):St:=s.Ts (V9 .u64 (s.count+1))
abbrev St.wpc(s:St)(x:Int):St:=⟨x,s.d,s.r,s.flags,s.SQ,s.S1,s.ie,s.root,s.vec,s.epc,s.SU,s.addr,s.S6,s.eie,s.count,s.halted⟩
def UF.init(S8:Li):UF:=⟨0,0,0,[],[],ph S8,0,0,0⟩
structure _root_.Go.Ink.gi where
 bm:Nat
 bB:Nat
 bT:Nat
end
end Go.Ink
namespace Go.Ink
open List renaming length→J
open IntKind renaming wrap→V9
open Go.RowKit
theorem u1:u32 1:=⟨by decide,by decide⟩
theorem wrap_u32(a:Int):u32 (V9 .u32 a):=by
 grind [u32,IntKind.wrap_u32]
variable{n:Nat}
theorem jn(h:n<=4294967295):u32 (n:Int):=⟨by omega,by omega⟩
end Go.Ink
namespace Go.Ink
open List renaming length→J
open IntKind renaming wrap→V9
open Go.RowKit Go.Proofs.Tryz
section
variable{n x:Int}
def dD(op:Int):Bool:=bif(bif decide (0<=op)then decide (op<=8)else false)then true else bif(bif bif decide (16<=op)then decide (op<=25)else false then op !=24 else false)then true else(bif decide (32<=op)then decide (op<=40)else false)
structure II where
 op:Int
 dst:Int
 a:Int
 b:Int
 imm:Int
structure Sd where
 l:List Int
 S2:Int
 high:Int
structure Lw where
 code:List II
 d:Sd
 r:Sd
 flags:Int
 target:Int
 branch:Int
def fO(k:Int)(code:List II)(s:Sd):Int×List II×Sd:=
 match s.l.getLast? with
 |some n=>(n,code,⟨s.l.dropLast,s.S2,s.high⟩)
 |none=>(J code,code++[⟨k,J code,0,0,V9 .u32 s.S2⟩],⟨[],s.S2+1,s.high⟩)
def Sd.top(s:Sd):Sd:=⟨s.l,s.S2,max s.high ((J s.l:Int) - s.S2)⟩
def Lw.S0(w:Lw):Int×Lw:=((fO 1 w.code w.d).1,⟨(fO 1 w.code w.d).2.1,(fO 1 w.code w.d).2.2,w.r,w.flags,w.target,w.branch⟩)
def Lw.Ty(w:Lw):Int×Lw:=((fO 2 w.code w.r).1,⟨(fO 2 w.code w.r).2.1,w.d,(fO 2 w.code w.r).2.2,w.flags,w.target,w.branch⟩)
def Lw.add(w:Lw)(op a b imm:Int):Lw:=⟨w.code++[⟨op,J w.code,a,b,imm⟩],w.d,w.r,w.flags,w.target,w.branch⟩
def Lw.here(w:Lw):Int:=J w.code
def Lw.wfl(w:Lw)(x:Int):Lw:=⟨w.code,w.d,w.r,x,w.target,w.branch⟩
def Lw.wtg(w:Lw)(x:Int):Lw:=⟨w.code,w.d,w.r,w.flags,x,w.branch⟩
def Lw.wbr(w:Lw)(x:Int):Lw:=⟨w.code,w.d,w.r,w.flags,w.target,x⟩
def Lw.S5(w:Lw):Lw:=⟨w.code,w.d.top,w.r.top,w.flags,w.target,w.branch⟩
def lz(D R V:Li)(x:II):Int:=
 bif x.op==0 then x.imm else bif x.op==1 then D.getD (J D - 1 - x.imm.toNat) 0 else bif x.op==2 then R.getD (J R - 1 - x.imm.toNat) 0 else
 bif x.op==3 then(hI x.imm (V.getD x.a.toNat 0) (V.getD x.b.toNat 0)).1 else(hI x.imm (V.getD x.a.toNat 0) (V.getD x.b.toNat 0)).2.1
def Tv(D R:Li)(code:List II):List Int:=code.foldl (λV x=>V++[lz D R V x]) []
section
variable{D R:Li}
theorem lT(code:List II)(x:II):Tv D R (code++[x])=Tv D R code++[lz D R (Tv D R code) x]:=by simp[Tv]
def II.in_(n:Int)(code:List II):Prop:=0<=n/\n<(J code:Int)
def eE(D R:Li)(code:List II)(n:Int):Int:=(Tv D R code).getD n.toNat 0
theorem sH{c:List II}(e:List II)(h:II.in_ n c):II.in_ n (c++e):=⟨h.1,by have:=h.2;simp;omega⟩
theorem pf(c:List II)(x:II):II.in_ (J c:Int) (c++[x]):=⟨by omega,by simp;omega⟩
variable{code:List II}
def FL(D R:Li)(f0:Int)(w:Lw)(f:Int):Prop:=w.flags= -1/\f=f0\/II.in_ w.flags w.code/\f=eE D R w.code w.flags
end
end
end Go.Ink
namespace Go.Ink
open List renaming length→J, replicate→R9
open IntKind renaming wrap→V9
open Go.RowKit Go.Proofs.Tryz
variable{b:Bool}
variable{n:Nat}
theorem K0{x y:Int}(s:Nat)(hs:s<=24)(hx:0<=x/\x<2^s)(hy:0<=y/\y<=255):bits .or .u32 x (V9 .u32 (y*2^s))=x+y*2^s:=by
 have h1:(2:Int)^s<=2^24:=by exact_mod_cast Nat.pow_le_pow_right ne hs
 have h2:(0:Int)<2^s:=Int.pow_pos ne;have h3:0<=y*2^s:=Int.mul_nonneg hy.1 (Int.le_of_lt h2);have h4:y*2^s<=255*2^s:=Int.mul_le_mul_of_nonneg_right hy.2 (Int.le_of_lt h2);have h5:(2:Int)^24=16777216:=by decide
 rw[u32_wrap_id _ h3 O];obtain⟨a,rfl⟩:∃a:Nat,x=a:=aj hx.1;obtain⟨b,rfl⟩:∃b:Nat,y=b:=aj hy.1;have h6:((b:Int)*2^s)=((b*2^s:Nat):Int):=by push_cast;rfl
 have h7:((2:Int)^s)=((2^s:Nat):Int):=by push_cast;rfl
 have h8:a<2^s:=by have:=hx.2;rw[h7]at this;omega
 rw[h6]at h4 h3|-;rw[h7]at h1 h4;show V9 .u32 (((BitVec.ofInt 32 (a:Int))|||(BitVec.ofInt 32 ((b*2^s:Nat):Int))).toNat:Int)=_;have e1:(BitVec.ofInt 32 (a:Int)).toNat=a:=by rw[BitVec.ofInt_natCast,BitVec.toNat_ofNat];exact CC
 have e2:(BitVec.ofInt 32 ((b*2^s:Nat):Int)).toNat=b*2^s:=by rw[BitVec.ofInt_natCast,BitVec.toNat_ofNat];exact CC
 rw[BitVec.toNat_or,e1,e2,Nat.or_comm,Nat.mul_comm b,<-Nat.two_pow_add_eq_or_of_lt h8,u32_wrap_id _ O (by rw[Nat.mul_comm];omega)]
 push_cast
 rw[Int.mul_comm,Int.add_comm]
theorem word_or{b0 b1 b2 b3:Int}(h0:0<=b0/\b0<=255)(h1:0<=b1/\b1<=255)(h2:0<=b2/\b2<=255)(h3:0<=b3/\b3<=255):
  bits .or .u32 (bits .or .u32 (bits .or .u32 b0 (V9 .u32 (b1*2^8))) (V9 .u32 (b2*2^16))) (V9 .u32 (b3*2^24))=b0+256*b1+65536*b2+16777216*b3:=by
 rw[K0 8 ne ⟨h0.1,by have:=h0.2;omega⟩ h1];rw[K0 16 ne ⟨by omega,by omega⟩ h2];rw[K0 24 ne ⟨by omega,by omega⟩ h3];omega
theorem Int.TG{l:Int}(h:u32 l)(c:Nat)(hc:c<256):bits .or .u32 l (c:Int)/256=l/256:=by
 obtain⟨a,rfl⟩:∃a:Nat,l=a:=aj h.1;have hl:(a:Int)<=4294967295:=h.2;show V9 .u32 (((BitVec.ofInt 32 (a:Int))|||(BitVec.ofInt 32 (c:Int))).toNat:Int)/256=_;have e1:(BitVec.ofInt 32 (a:Int)).toNat=a:=by rw[BitVec.ofInt_natCast,BitVec.toNat_ofNat];exact CC
 have e2:(BitVec.ofInt 32 (c:Int)).toNat=c:=by rw[BitVec.ofInt_natCast,BitVec.toNat_ofNat];exact CC
 have e3:a|||c<2^32:=Nat.or_lt_two_pow O O
 rw[BitVec.toNat_or,e1,e2,u32_wrap_id _ O O];have e4:(a|||c)/2^8=a/2^8:=by
  rw[Nat.or_div_two_pow,Nat.div_eq_of_lt (show c<2^8 from hc),Nat.or_zero]
 omega
theorem Ic{l:Int}(h:u32 l)(kind:Int):jj l kind/256=l/256:=by
 unfold jj;cases(kind==3)
 .exact Int.TG h 32 ne
 refine ix ?_;rw[show(64:Int)=((64:Nat):Int)from I,Int.TG (dY _ _ _) 64 ne];exact Int.TG h 32 ne
section
variable{k:Int}
theorem F6(h:1<=k/\k<=3):Vo k=k+6:=by
 obtain rfl|rfl|rfl:k=1\/k=2\/k=3:=by omega
 all_goals rfl
theorem Ce(h:¬(1<=k/\k<=3)):Vo k=0:=by
 have e1:(k==1)=false:=by simp;omega
 have e2:(k==2)=false:=by simp;omega
 have e3:(k==3)=false:=by simp;omega
 unfold Vo;rw[e1,e2,e3]
 rfl
variable{va:Nat}
theorem want3(SQ:Bool):bits .or .u32 (V9 .u32 (oP 3 SQ - 1)) 64=(asked 3 SQ).1:=by cases SQ<;>decide
theorem want12(h:1<=k/\k<=3)(h3:(k==3)=false)(SQ:Bool):V9 .u32 (oP k SQ - 1)=(asked k SQ).1:=by
 have h3:k≠3:=by simpa using h3
 obtain rfl|rfl:k=1\/k=2:=by omega
 all_goals (cases SQ<;>decide)
theorem QL(h:1<=k/\k<=3)(SQ:Bool):(asked k SQ).2=true:=by
 obtain rfl|rfl|rfl:k=1\/k=2\/k=3:=by omega
 all_goals rfl
theorem H9{e:TE}{a:Int×Bool}(h:a.2=true):kN e va a=((((!e.valid||(e.vpn !=((va/64:Nat):Int)))||false)||false)||(bits .and .u32 e.bits a.1 !=a.1)):=by
 unfold kN;rw[h];simp
theorem Hy(n p:Nat)(kind:Int):(decide (p+1<=n*64)||(((kind !=1)&&decide ((32768:Int)<=(p:Int)))&&decide ((p:Int)<33024)))=(decide ((p:Int)<((n*64:Nat):Int))||((kind !=1)&&iG (p:Int))):=by
 unfold iG;rw[Bool.and_assoc,decide_eq_decide.2 (show p+1<=n*64<->(p:Int)<((n*64:Nat):Int) by omega)]
variable{a:Int}
theorem lines2:ju [2]=4:=by decide
theorem Cl(n s a cmd:Nat):(((decide ((16:Int)<=(s:Int))||(((a%64:Nat):Int) !=0))|| !decide (a+1<=n*64))||((((cmd:Nat):Int) !=1)&&(((cmd:Nat):Int) !=2)))=(!iI n s a||(!(cmd==1)&& !(cmd==2))):=by
 unfold iI;have e1:decide ((16:Int)<=(s:Int))=decide (16<=s):=decide_eq_decide.2 O
 have e2:(((a%64:Nat):Int) !=0)=(a%64 !=0):=Fy (a%64) 0;have e3:(!decide (a+1<=n*64))=decide (n*64<=a):=by
  by_cases h:a+1<=n*64
  .rw[ap h,ao O];rfl
  rw[ao h,ap O];rfl
 have e4:(((cmd:Nat):Int) !=1)= !(cmd==1):=Fy cmd 1;have e5:(((cmd:Nat):Int) !=2)= !(cmd==2):=Fy cmd 2;rw[e1,e2,e3,e4,e5,Bool.not_not]
end
end Go.Ink
namespace Go.Ink
open List renaming length→J
open IntKind renaming wrap→V9
open Go.RowKit Go.Proofs.Tryz
set_option maxHeartbeats 1000000
variable{x:Int}
section
theorem lX(l:Li)(x y:Int):((l++[x])++[y])[J l]? =some x:=by
 rw[aw,List.getElem?_append_right (aK _),Nat.sub_self]
 rfl
end
end Go.Ink
namespace Go.Ink
open List renaming length→J, replicate→R9
open IntKind renaming wrap→V9
open Go.RowKit Go.Proofs.Tryz
section
variable{b:Nat}
def sX:List Int->Int
 |[]=>0
 |b::l=>b+256*sX l
def dI(b:Li):Option ((Int×Int)×Nat):=
 match b with
 |[]=>none
 |op::l=>bif cB op==0 then none else bif decide ((J l:Int)+1<cB op)then none else some ((op,sX (l.take ((cB op).toNat - 1))),(cB op).toNat)
def gz(op:Int):Bool:=(decide (32<=op)&&decide (op<=40))||(decide (64<=op)&&decide (op<=69))
theorem tW:∀{l:Li},Vh l->0<=sX l/\sX l<((256^J l:Nat):Int)
 |[],_=>by simp[sX]
 |b::l,h=>by
  obtain⟨h1,h2⟩:=tW (l:=l) (λx hx=>h x (aW _ hx));have hb:=h b cJ;have e:((256^J (b::l):Nat):Int)=256*((256^J l:Nat):Int):=by
   rw[aE,Nat.pow_succ,Nat.mul_comm];exact Int.natCast_mul 256 _
  rw[e];unfold sX;omega
def SzIn(x:Int):Prop:=x=0\/x=1\/x=2\/x=5
theorem iR(op:Int):SzIn (cB op):=by
 unfold cB
 repeat (refine bL SzIn (Or.inr (Or.inr (Or.inl rfl))) ?_)
 refine bL SzIn (Or.inr (Or.inr (Or.inr I))) ?_;exact bL SzIn (Or.inl I) (Or.inr (Or.inl I))
variable{op:Int}
theorem mQ{l:Li}{z:Nat}(h0:cB op=((z+1:Nat):Int))(h:z<=J l):dI (op::l)=some ((op,sX (l.take z)),z+1):=by
 have e1:(cB op==0)=false:=by rw[h0,bF];omega
 have e2:decide ((J l:Int)+1<cB op)=false:=ao (by rw[h0];omega)
 show(bif cB op==0 then none else bif decide ((J l:Int)+1<cB op)then none else some ((op,sX (l.take ((cB op).toNat - 1))),(cB op).toNat))=_;rw[e1,ac,e2,ac,h0]
 rfl
end
end Go.Ink
namespace Go.Ink
open List renaming length→J
open IntKind renaming wrap→V9
open Go.RowKit
structure j7(w w':Lw):Prop where
 nd:w.d.S2<=w'.d.S2
 nr:w.r.S2<=w'.r.S2
 hd:w.d.high<=w'.d.high
 hr:w.r.high<=w'.r.high
theorem j7.trans{a b c:Lw}(h:j7 a b)(k:j7 b c):j7 a c:=⟨Int.le_trans h.nd k.nd,Int.le_trans h.nr k.nr,Int.le_trans h.hd k.hd,Int.le_trans h.hr k.hr⟩
variable{a:Nat}
theorem DQ(ha:a<18446744073709551616):(BitVec.ofInt IntKind.u64.bits (a:Int)).toNat=a:=by rw[BitVec.toNat_ofInt];show((a:Int)%((18446744073709551616:Nat):Int)).toNat=a;omega
theorem DR(ha:a<4294967296):(BitVec.ofInt IntKind.u32.bits (a:Int)).toNat=a:=by rw[BitVec.toNat_ofInt];show((a:Int)%((4294967296:Nat):Int)).toNat=a;omega
variable{b:Nat}
theorem Ng(ha:a<18446744073709551616)(hb:b<18446744073709551616):bits .and .u64 (a:Int) (b:Int)=((a&&&b:Nat):Int):=by
  grind [bits,IntKind.wrap_u64,DQ,Nat.and_le_left,BitVec.toNat_and]
theorem or64(ha:a<18446744073709551616)(hb:b<18446744073709551616):bits .or .u64 (a:Int) (b:Int)=((a|||b:Nat):Int):=by
  have h3:a|||b<2^64:=Nat.or_lt_two_pow ha hb
  grind [bits,IntKind.wrap_u64,DQ]
theorem GG(ha:a<18446744073709551616)(hb:b<18446744073709551616):bits .xor .u64 (a:Int) (b:Int)=((a^^^b:Nat):Int):=by
  have h3:a^^^b<2^64:=Nat.xor_lt_two_pow ha hb
  grind [bits,IntKind.wrap_u64,DQ]
theorem Nh(ha:a<4294967296)(hb:b<4294967296):bits .and .u32 (a:Int) (b:Int)=((a&&&b:Nat):Int):=by
  grind [bits,IntKind.wrap_u32,DR,Nat.and_le_left,BitVec.toNat_and]
theorem or32(ha:a<4294967296)(hb:b<4294967296):bits .or .u32 (a:Int) (b:Int)=((a|||b:Nat):Int):=by
  have h3:a|||b<2^32:=Nat.or_lt_two_pow ha hb
  grind [bits,IntKind.wrap_u32,DR]
theorem GH(ha:a<4294967296)(hb:b<4294967296):bits .xor .u32 (a:Int) (b:Int)=((a^^^b:Nat):Int):=by
  have h3:a^^^b<2^32:=Nat.xor_lt_two_pow ha hb
  grind [bits,IntKind.wrap_u32,DR]
theorem low64(z:Int):bits .and .u64 (V9 .u64 z) 4294967295=V9 .u32 z:=by
  obtain⟨n,hn⟩:∃n:Nat,V9 .u64 z=n:=aj (by rw[aP];omega);have h1:n<18446744073709551616:=by rw[aP]at hn;omega
  rw[hn,show(4294967295:Int)=((4294967295:Nat):Int)from I,Ng h1 ne,show(4294967295:Nat)=2^32 - 1 from I,Nat.and_two_pow_sub_one_eq_mod]
  grind [IntKind.wrap_u64,IntKind.wrap_u32]
theorem iV(ha:a<4294967296)(hb:b<4294967296):a^^^b<4294967296:=Nat.xor_lt_two_pow (n:=32) ha hb
theorem tZ(ha:a<4294967296):a&&&b<4294967296:=Nat.lt_of_le_of_lt Nat.and_le_left ha
theorem shr31(ha:a<4294967296):(a:Int).fdiv (2^(min (Int.toNat 31) IntKind.u64.bits))=Vx (decide (2147483648<=a)):=by
  show(a:Int).fdiv 2147483648=_;by_cases h:2147483648<=a
  . rw[ap h];show(a:Int).fdiv 2147483648=1;grind
  rw[ao h];show(a:Int).fdiv 2147483648=0;grind
structure HM where
  Tu:List Int
  words:List Int
  pc:Int
def kT(op a b:Int):Int:=
  bif op==2 then a else bif op==3 then V9 .u64 (a+b)else bif op==4 then V9 .u64 (a - b)else bif op==5 then bits .and .u64 a b else bif op==6 then bits .or .u64 a b else bif op==7 then bits .xor .u64 a b else
  bif op==8 then V9 .u64 (a*2^(min b.toNat IntKind.u64.bits))else bif op==9 then a.fdiv (2^(min b.toNat IntKind.u64.bits))else bif op==10 then V9 .u64 (a*b)else
  bif op==11 then(bif b==0 then 0 else V9 .u64 (a.tdiv b))else bif op==12 then Vx (decide (a<b))else Vx (a==b)
abbrev rg(R:Li)(k:Int):Int:=R.getD k.toNat 0
section
variable{R:Li}
variable{j:Nat}
def la(except:List Nat)(R R':Li):Prop:=∀j,j∉except->R'.getD j 0=R.getD j 0
theorem la.trans{e e':List Nat}{A B D:Li}(h:la e A B)(h':la e' B D){e2:List Nat}(hs:∀x,x∈e\/x∈e'->x∈e2):la e2 A D:=λj hj=>(h' j λhx=>hj (hs j (Or.inr hx))).trans (h j λhx=>hj (hs j (Or.inl hx)))
end
section
variable{x y:Nat}
theorem shl64:V9 .u32 ((x:Int)*2^(min ((y:Int)).toNat IntKind.u64.bits))=di (x:Int) (y:Int) true:=by
 unfold di;rw[aV];by_cases h:32<=y
 .rw[ap (show 32<=(y:Int) by omega)];show _=(0:Int);obtain⟨m,hm⟩:∃m,min y IntKind.u64.bits=32+m:=⟨min y IntKind.u64.bits - 32,by show min y 64=32+(min y 64 - 32);omega⟩
  grind [IntKind.wrap_u32,Int.pow_add,Int.mul_assoc,Int.mul_comm,Int.mul_emod_right]
 rw[ao (show¬32<=(y:Int) by omega)];show _=V9 .u32 ((x:Int)*2^(min y IntKind.u32.bits));exact Wx54_
theorem shr64(hx:x<4294967296):(x:Int).fdiv (2^(min ((y:Int)).toNat IntKind.u64.bits))=di (x:Int) (y:Int) false:=by
 unfold di;rw[aV];by_cases h:32<=y
 .rw[ap (show 32<=(y:Int) by omega)];show _=(0:Int);obtain⟨m,hm⟩:∃m,min y IntKind.u64.bits=32+m:=⟨min y IntKind.u64.bits - 32,by show min y 64=32+(min y 64 - 32);omega⟩;rw[hm,Int.fdiv_eq_ediv_of_nonneg _ bZ];refine Int.ediv_eq_zero_of_lt O ?_;have h1:(2:Nat)^32<=2^(32+m):=Nat.pow_le_pow_right ne O
  grind
 rw[ao (show¬32<=(y:Int) by omega)];show _=(x:Int).fdiv (2^(min y IntKind.u32.bits));exact Wx54_
theorem Gs:∀(a b c d:Bool),bits .or .u64 (Vx a) (V9 .u64 (Vx b*2^(min (Int.toNat 1) IntKind.u64.bits)))=Vx a+2*Vx b/\bits .or .u64 (Vx a+2*Vx b) (V9 .u64 (Vx c*2^(min (Int.toNat 2) IntKind.u64.bits)))=Vx a+2*Vx b+4*Vx c/\
  bits .or .u64 (Vx a+2*Vx b+4*Vx c) (V9 .u64 (Vx d*2^(min (Int.toNat 3) IntKind.u64.bits)))=Vx a+2*Vx b+4*Vx c+8*Vx d:=by decide+kernel
theorem vM(a b r o:Int)(p q c:Bool):mh a b r (Vx p+2*Vx q) c o=Vx p+2*Vx q+4*Vx c+8*Vx (o !=0):=by
 unfold mh;cases o !=0<;>cases p<;>cases q<;>cases c<;>rfl
end
structure Pl where
  reg:List Int
  slot:List Int
  Tt:Int
abbrev Pl.r(pl:Pl)(n:Int):Int:=pl.reg.getD n.toNat 0
abbrev Pl.s(pl:Pl)(n:Int):Int:=pl.slot.getD n.toNat 0
def Pl.inR(pl:Pl)(n:Int):Bool:=decide (0<=pl.r n)
def eQ(pl:Pl)(n into:Int):Int:=bif pl.inR n then pl.r n else into
def ji(S2 high:Int)(out:Nat):Int:=if 16+S2 - out<16 - high then 16+S2 - out else 16 - high
section
variable{R W:Li}{pl:Pl}
variable{n:Int}
theorem AQ(h:0<=pl.s n/\pl.s n<128)(h15:R.getD 15 0=0):V9 .u64 (R.getD 15 0+V9 .u32 (64+pl.s n))=((64+(pl.s n).toNat:Nat):Int):=by
  grind [IntKind.wrap_u32,IntKind.wrap_u64]
structure RO(D Rr:Li)(SW SZ:Int)(R W:Li):Prop where
  z:R.getD 15 0=0
  bd:R.getD 14 0=(J D:Int) - SW
  br:R.getD 13 0=(J Rr:Int) - SZ
  d:∀j,j<J D->W.getD (4+j) 0=D.getD j 0
  r:∀j,j<J Rr->W.getD (20+j) 0=Rr.getD j 0
  d16:J D<=16
  r16:J Rr<=16
  nd:0<=SW/\SW<=J D
  nr:0<=SZ/\SZ<=J Rr
end
end Go.Ink
namespace Go.Ink
open List renaming length→J, replicate→R9
open IntKind renaming wrap→V9
open Go.RowKit
variable{T:Li}
def Up(A B:Li):Prop:=J B=J A/\∀i,A.getD i 0<=B.getD i 0
theorem Up.trans{A B D:Li}(h:Up A B)(k:Up B D):Up A D:=⟨k.1.trans h.1,λi=>Int.le_trans (h.2 i) (k.2 i)⟩
variable{n i:Nat}
def nH(T:Li)(i j:Nat):Bool:=(decide ((i:Int)<T.getD j 0)&&decide ((j:Int)<T.getD i 0))||((i:Int)==(j:Int))
def fu(T place:Li)(n:Nat)(k:Int):Nat->Bool
 |0=>false
 |i+1=>fu T place n k i||((place.getD i 0==k)&&nH T i n)
def kV(T place:Li)(n:Nat):Nat->Nat->Nat
 |0,k=>k
 |f+1,k=>bif fu T place n k (J place) then kV T place n f (k+1)else k
def fX(T place:Li)(n:Nat):Nat:=kV T place n (J place) 0
def gu(T reg:Li)(n:Nat):Nat->Nat
 |0=>n
 |k+1=>bif((reg.getD k 0 != -1)&&nH T n k)&&decide (T.getD (gu T reg n k) 0<T.getD k 0)then k else gu T reg n k
theorem AK(T place:Li)(n:Nat)(k:Int):∀m,fu T place n k m=true<->∃i,i<m/\place.getD i 0=k/\nH T i n=true
 :=by intro y1;induction y1<;>grind [fu,nH]
theorem vk(T reg:Li)(n:Nat):∀k,gu T reg n k=n\/(gu T reg n k<k/\reg.getD (gu T reg n k) 0≠ -1/\nH T n (gu T reg n k)=true)
 |0=>Or.inl rfl
 |k+1=>by
  have e:gu T reg n (k+1)=bif((reg.getD k 0 != -1)&&nH T n k)&&decide (T.getD (gu T reg n k) 0<T.getD k 0)then k else gu T reg n k:=rfl
  cases hc:((reg.getD k 0 != -1)&&nH T n k)&&decide (T.getD (gu T reg n k) 0<T.getD k 0)with
  |true=>
   rw[hc,ah]at e;rw[e];simp only[ay,bne_iff_ne,ne_eq]at hc;exact Or.inr ⟨by omega,hc.1.1,hc.1.2⟩
  |false=>
   rw[hc,ac]at e;rw[e];rcases vk T reg n k with h|⟨h1,h2⟩
   .exact Or.inl h
   exact Or.inr ⟨by omega,h2⟩
end Go.Ink
namespace Go.Ink
open List renaming length→J, replicate→R9
open IntKind renaming wrap→V9
open Go.RowKit
def iv(pl:Li)(n:Int):Int:=bif n != -1 then pl.getD n.toNat 0 else n
variable{j:Nat}
variable{k:Nat}
variable{c:List II}
variable{n:Int}
theorem Iq{c':List II}(h:II.in_ n c)(he:∃e,c'=c++e):II.in_ n c':=by grind [sH]
theorem HJ{c':List II}(h:n= -1\/II.in_ n c)(he:∃e,c'=c++e):n= -1\/II.in_ n c':=by grind [Iq]
def Lw.init:Lw:=⟨[],⟨[],0,0⟩,⟨[],0,0⟩, -1, -1,0⟩
def SO(s s':St)(k:Nat):Prop:=s'=⟨s'.pc,s'.d,s'.r,s'.flags,s.SQ,s.S1,s.ie,s.root,s.vec,s.epc,s.SU,s.addr,s.S6,s.eie,V9 .u64 (s.count+k),s.halted⟩
theorem SO.trans{a b c:St}(h:SO a b 1)(k:SO b c j):SO a c (j+1):=by
 grind [SO,IntKind.wrap_u64]
end Go.Ink
namespace Go.Ink
open List renaming length→J, replicate→R9
open IntKind renaming wrap→V9
open Go.RowKit Go.Proofs.Tryz
variable{α:Type}{l:List α}{x:α}
variable{a:Int}
structure LS where
 A:Option Addr
 c:Nat
 ks:List Ky
def mi(k:Ky)(x:LS):LS:=⟨x.A,x.c,x.ks.filter λq=> !(q==k)⟩
theorem tP(L:List (Ky×α))(k:Ky):(qk L k).Sublist L:=by
 grind [qk,cN]
section
def CL(keys:List Ky)(LK:List (Ky×LS)):Prop:=∀x,x∈LK->lD x.1/\x.2.ks.Nodup/\∀q,q∈x.2.ks->q∈keys
theorem BB:∀{l m:List Ky},l.Nodup->(∀x,x∈l->x∈m)->J l<=J m
 |[],m,_,_=>ax _
 |a::l,m,hn,hs=>by
  obtain⟨h1,h2⟩:=List.nodup_cons.1 hn;have hm:=hs a (bn ..);have:=BB (l:=l) (m:=m.erase a) h2 (λx hx=>(List.mem_erase_of_ne (λe=>h1 bZ)).2 (hs x (aW _ hx)))
  grind
variable{keys:List Ky}{LK:List (Ky×LS)}
theorem CL.sm(h:CL keys LK)(hk:J keys<=1000000):∀x,x∈LK->lD x.1/\J x.2.ks<=1000000:=λx hx=>⟨(h x hx).1,aN (BB (h x hx).2.1 (h x hx).2.2) hk⟩
end
end Go.Ink
