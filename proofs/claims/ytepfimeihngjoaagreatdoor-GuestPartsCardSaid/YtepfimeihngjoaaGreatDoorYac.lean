/- Lemmas. -/
import Derived.Test.YtepfimeihngjoaaGreatDoorYaa
import Derived.Laws.StructEq
import Derived.Test.YtepfimeihngjoaaGreatDoorProg
import Derived.Test.YtepfimeihngjoaaGreatDoorRows
import Derived.ChangeKeysEq
import Derived.LaidMore
import Derived.OpenShut
import Derived.Handed
import Derived.Stop.Joined
import Derived.Lib.EndianBits
import Derived.Maps.Range
import Derived.DeepKeys4
set_option linter.all false
set_option maxRecDepth 100000
set_option maxHeartbeats 4000000
namespace Go.Ink
open List renaming length→J
open IntKind renaming wrap→V9
open Go.RowKit Go.Proofs.Tryz
section
theorem ir.{u,v}{α:Sort u}{β:Sort v}{f g:α->β}(h:∀x,f x=g x:=by exact λ_=>I):∀x,f x=g x:=h
theorem Uk{α:Type}(a:α):∃b,a=b:=⟨a,I⟩
end
def gi(n lo hi:Int):Int:=lo+n%(hi - lo+1)
section
theorem kg(n lo hi:Int)(h:lo<=hi):lo<=gi n lo hi/\gi n lo hi<=hi:=by
 unfold gi;have h1:=Int.emod_nonneg n (show hi - lo+1≠0 by omega);have h2:=Int.emod_lt_of_pos n (show 0<hi - lo+1 by omega);omega
theorem and63(n:Nat)(h:n<4294967296):n&&&4294967232=n - n%64:=by
 have h1:n&&&4294967232=(n/64)*64:=by
  apply Nat.eq_of_testBit_eq;intro i;have e:(4294967232:Nat)=(2^26 - 1)*2^6:=by decide
  rw[e,Nat.testBit_and,show(n/64)*64=(n/2^6)*2^6 from I];rw[Nat.testBit_mul_two_pow,Nat.testBit_mul_two_pow,Nat.testBit_two_pow_sub_one,Nat.testBit_div_two_pow];by_cases hi:6<=i
  .simp only[hi,decide_true,bz,show i - 6+6=i by omega];by_cases h26:i - 6<26
   .simp[h26]
   have:n.testBit i=false:=Nat.testBit_lt_two_pow (Nat.lt_of_lt_of_le h (by
    have:2^32<=2^i:=Nat.pow_le_pow_right O O;omega))
   simp[this]
  simp[hi]
 omega
theorem own0:ownKnob prog.godebug=none:=by kernel_rfl
theorem Yh:laidOutB prog=true:=by kernel_rfl
theorem H9{w w':World}{a:Addr}(h:w'.heap[a.block]? =w.heap[a.block]?):w'.cell? a=w.cell? a:=by
 unfold World.cell?;rw[h]
theorem cell_lt{w:World}{a:Addr}{v:Value}(h:w.cell? a=some v):a.block<w.heap.size:=by
 unfold World.cell? at h;cases hb:w.heap[a.block]? with
 |none=>rw[hb]at h;cases h
 |some o=>exact(Array.getElem?_eq_some_iff.1 hb).1
end
structure PA where
 i:Nat
 d:Nat
 zs:List Value
 T:TypeId
end Go.Ink
namespace Go.Ink
open List renaming length→J, replicate→R9
open IntKind renaming wrap→V9
open Go.RowKit Go.Proofs.Tryz
def dU(ow:Li)(o:Int)(k:Nat):List Int:=((List.range k).filter (λf=>ow[f]? ==some o)).map (λf:Nat=>(f:Int))
theorem uS(ow:Li)(o:Int)(k:Nat):dU ow o (k+1)=dU ow o k++(bif ow[k]? ==some o then[(k:Int)]else[]):=by
 grind [dU,List.range_succ]
theorem Lv(ow:Li)(o:Int)(k:Nat):J (dU ow o k)<=k:=by
 grind [dU]
section
variable{α:Type}{n k:Nat}
theorem CA(n:Nat)(a b:α):R9 n a++R9 (n - n) b=R9 n a:=by simp
theorem yg(n:Nat)(a b:α):R9 0 a++R9 (n - 0) b=R9 n b:=by simp
def gQ(pr:Li)(k:Nat):Int:=(pr.take k).foldl (λs x=>s+(if 0>x then 0 else x)) 0
theorem nZ{pr:Li}(h:k<J pr):gQ pr (k+1)=gQ pr k+(if 0>pr[k]'h then 0 else pr[k]'h):=by
 grind [gQ,List.take_succ_eq_append_getElem]
section
theorem idx_of{l:Li}{f:Int}(h:f∈l):l[l.idxOf f]? =some f:=by
 grind
theorem Ll{l:Li}:∀{fs:List Nat},fs.Nodup->(∀f,f∈fs->((f:Nat):Int)∈l)->(fs.map λf:Nat=>l.idxOf (f:Int)).Nodup
 :=by intro y1 y2;induction y2<;>grind [idx_of]
end
def gB(d:Li)(a:Nat):Int:=d.getD a 0
variable{d:Li}{a:Nat}
theorem sK(h:a<J d):d[a]? =some (gB d a):=by simp[gB,h]
def sy(d:Li)(a:Nat):Nat->Int
 |0=>0
 |k+1=>sy d a k*256+gB d (a+(3 - k))
def kY(d:Li)(a:Nat):Int:=gB d a+256*gB d (a+1)+65536*gB d (a+2)+16777216*gB d (a+3)
theorem Gm(d:Li)(a:Nat):sy d a 4=kY d a:=by
 simp[sy,kY];omega
def mj(v:Int)(k:Nat):Int:=v/256^k%256
theorem ku(v:Int)(k:Nat):0<=mj v k/\mj v k<=255:=by unfold mj;omega
def UV(kind:Int):Int:=bif kind==1 then 7 else bif kind==2 then 8 else bif kind==3 then 9 else 0
def W8(root va:Nat):Nat:=root/64*64+4*(va/1024%16)
def WZ(e:Int)(va:Nat):Nat:=(e/256).toNat*64+4*(va/64%16)
structure Sp where
 SJ:Bool
 Sy:Bool
 root:Nat
def iv(a:Int):Bool:=decide (32768<=a)&&decide (a<33024)
theorem Xe(a:Int)(n:Nat):a.fdiv (2^n)=a/2^n:=by grind
variable{va:Nat}
def cT(va:Nat):Nat:=(va - va%64+64)%4294967296
theorem jf(va:Nat):cT va<=4294967295:=by unfold cT;omega
theorem AM(va:Nat):cT va%64=0:=by unfold cT;omega
def ef(d:Li):List Int->Int
 |[]=>0
 |a::l=>gB d a.toNat+256*ef d l
end
end Go.Ink
namespace Go.Ink
open List renaming length→J, replicate→R9
open IntKind renaming wrap→V9
open Go.RowKit Go.Proofs.Tryz
def ix(n SA a:Nat):Bool:= !((decide (16<=SA)||(a%64 !=0))||decide (n*64<=a))
section
def _root_.Go.Ink.oY(l:Li):List Int:=l++R9 (1024 - J l) 0
theorem lW(n k:Nat):((n:Int)==((k:Nat):Int))=(n==k):=by rw[Bool.eq_iff_iff];simp;omega
theorem E5(n k:Nat):((n:Int) !=((k:Nat):Int))=(n !=k):=by rw[Bool.eq_iff_iff];simp;omega
theorem xe(n SA a:Nat):(((false||decide ((16:Int)<=SA))||(((a%64:Nat):Int) !=((0:Nat):Int)))||decide (((n*64:Nat):Int)<=a))= !ix n SA a:=by
 unfold ix;rw[Bool.not_not,bh,E5,show decide ((16:Int)<=SA)=decide (16<=SA)from decide_eq_decide.2 O,show decide (((n*64:Nat):Int)<=a)=decide (n*64<=a)from decide_eq_decide.2 O]
structure Un where
 SU:Int
 mask:Int
 timer:Int
 out:List Int
 inp:List Int
 SV:List Int
 SA:Nat
 place:Nat
 status:Int
structure fv where
 Ao:Option Addr
 co:Nat
 Ai:Option Addr
 ci:Nat
def yt(op:Int):Bool:=bif op==16 then true else bif op==17 then true else bif op==18 then true else bif op==19 then true else bif op==20 then true else bif op==21 then true else bif op==22 then true else bif op==23 then true else bif op==24 then true else bif op==25 then true else bif op==48 then true else bif op==49 then true else bif op==50 then true else bif op==51 then true else bif op==52 then true else bif op==53 then true else bif op==64 then true else bif op==65 then true else bif op==66 then true else bif op==67 then true else bif op==68 then true else bif op==69 then true else false
def ux(op:Int):Bool:=bif op==0 then true else bif op==1 then true else bif op==2 then true else bif op==3 then true else bif op==4 then true else bif op==5 then true else bif op==6 then true else bif op==7 then true else bif op==8 then true else bif op==32 then true else bif op==33 then true else bif op==34 then true else bif op==35 then true else bif op==36 then true else bif op==37 then true else bif op==38 then true else bif op==39 then true else bif op==40 then true else yt op
def cw(op:Int):Int:=bif op==1 then 2 else bif op==32 then 2 else bif op==33 then 2 else bif op==34 then 2 else bif op==35 then 2 else bif op==36 then 2 else bif op==37 then 2 else bif op==38 then 2 else bif op==66 then 2 else bif op==67 then 2 else bif op==2 then 5 else bif !ux op then 0 else 1
def eG(op n:Int):Bool:=bif cw op==0 then false else bif cw op==1 then n==0 else bif cw op==2 then decide (n<=255)else true
def lz(op:Int):Bool:=decide (65<=op)&&decide (op<=69)
def bR(op:Int):(Nat×Nat)×(Nat×Nat):=
 bif op==1 then((0,1),(0,0))else bif op==2 then((0,1),(0,0))else bif op==66 then((0,1),(0,0))else bif op==3 then((1,2),(0,0))else bif op==4 then((1,0),(0,0))else bif op==40 then((1,0),(0,0))else bif op==67 then((1,0),(0,0))else bif op==68 then((1,0),(0,0))else bif op==5 then((2,2),(0,0))else bif op==6 then((2,3),(0,0))else bif op==7 then((1,0),(0,1))else bif op==8 then((0,1),(1,0))else bif op==16 then((2,1),(0,0))else bif op==17 then((2,1),(0,0))else bif op==18 then((2,1),(0,0))else bif op==19 then((2,1),(0,0))else bif op==20 then((2,1),(0,0))else bif op==21 then((2,1),(0,0))else bif op==22 then((2,1),(0,0))else bif op==23 then((2,1),(0,0))else bif op==24 then((2,1),(0,0))else bif op==25 then((2,0),(0,0))else bif op==49 then((2,0),(0,0))else bif op==51 then((2,0),(0,0))else bif op==53 then((2,0),(0,0))else bif op==48 then((1,1),(0,0))else bif op==50 then((1,1),(0,0))else bif op==52 then((1,1),(0,0))else bif op==38 then((0,0),(0,1))else bif op==39 then((0,0),(1,0))else((0,0),(0,0))
structure eN where
 Ad:Option Addr
 cd:Nat
 Ar:Option Addr
 cr:Nat
structure IP where
 br:Nat
 u:Option Addr
 b:Option Addr
theorem gO{a b:Int}(h:(a==b)=true):a=b:=by simpa using h
theorem yv{op:Int}(h:(decide (16<=op)&&decide (op<=25))=true):(bR op).1.1=2:=by
 simp only[aC,ah]at h;obtain rfl|rfl|rfl|rfl|rfl|rfl|rfl|rfl|rfl|rfl:op=16\/op=17\/op=18\/op=19\/op=20\/op=21\/op=22\/op=23\/op=24\/op=25:=by omega
 all_goals rfl
variable{α:Type}
theorem bJ(p:α->Prop){c:Bool}{x y:α}(hx:p x)(hy:p y):p (bif c then x else y):=by cases c<;>assumption
def Nn(q:(Nat×Nat)×(Nat×Nat)):Prop:=q.1.1<=3/\q.1.2<=3/\q.2.1<=3/\q.2.2<=3
theorem E4(op:Int):Nn (bR op):=by
 unfold bR
 repeat (refine bJ Nn ⟨by decide,by decide,by decide,by decide⟩ ?_)
 exact⟨by decide,by decide,by decide,by decide⟩
theorem sM{c:Bool}{x y:α}(h:c=true):(bif c then x else y)=x:=by rw[h];rfl
theorem lC{c:Bool}{x y:α}(h:c=false):(bif c then x else y)=y:=by rw[h];rfl
end
end Go.Ink
namespace Go.Ink
open List renaming length→J, replicate→R9
open IntKind renaming wrap→V9
open Go.RowKit Go.Proofs.Tryz
section
variable{op:Int}
structure _root_.Go.Ink.gb where
 bm:Nat
 bB:Nat
 bT:Nat
def nq(n:Nat)(b:Li):List Int:=b++R9 (n*64 - J b) 0
variable{l:Li}
theorem H6(h:J l<=1024):J (oY l)=1024:=by simp[oY];omega
theorem LV(kind:Int):0<=UV kind/\UV kind<=255:=by
 grind [UV]
variable{p:Int->Prop}
theorem Qx(h:∀x,x∈l->p x){y:Int}(hy:p y):∀x,x∈l++[y]->p x:=by grind
theorem sN{m:Li}(h:∀x,x∈l++m->p x):∀x,x∈l->p x:=by grind
theorem xn{y:Int}(h:∀x,x∈l++[y]->p x):p y:=h y cE
theorem Kx(h1:16<=op)(h2:op<=24):bR op=((2,1),(0,0)):=by
 obtain rfl|rfl|rfl|rfl|rfl|rfl|rfl|rfl|rfl:op=16\/op=17\/op=18\/op=19\/op=20\/op=21\/op=22\/op=23\/op=24:=by omega
 all_goals rfl
end
end Go.Ink
namespace Go.Ink
open List renaming length→J, replicate→R9
open IntKind renaming wrap→V9
open Go.RowKit Go.Proofs.Tryz
variable{n:Nat}
theorem yO{α:Type}{f:α->List Value}{sz:Nat}(hf:∀a,J (f a)=sz):∀xs:List α,J (xs.flatMap f)=J xs*sz
 |[]=>by simp
 |x::xs=>by rw[List.flatMap_cons,ar,hf,yO hf xs,aE,Nat.succ_mul];omega
abbrev sb:List Int:=[1,1,1,2,3,4,5,6,7,8,16,17,18,19,20,21,22,23,24,25,32,33,34,35,36,37,38,39,40,48,49,50,51,52,53,64,65,66,67,68,0,69]
section
def Gr:List Int:=[0,1,28,2,29,14,24,3,30,22,20,15,25,17,4,8,31,27,13,23,21,19,16,7,26,12,18,6,11,5,10,9]
def sE:List Int->Int
 |[]=>0
 |b::l=>b+256*sE l
def gg(op:Int):Bool:=(decide (32<=op)&&decide (op<=40))||(decide (64<=op)&&decide (op<=69))
theorem BP(k:IntKind)(x y:Int):bits .or k x y=bits .or k y x:=by
 unfold bits;simp only[BitVec.or_comm]
def SzIn(x:Int):Prop:=x=0\/x=1\/x=2\/x=5
theorem iD(op:Int):SzIn (cw op):=by
 unfold cw
 repeat (refine bJ SzIn (Or.inr (Or.inr (Or.inl rfl))) ?_)
 refine bJ SzIn (Or.inr (Or.inr (Or.inr I))) ?_;exact bJ SzIn (Or.inl I) (Or.inr (Or.inl I))
end
variable{w:World}
variable{e c:Nat}
def dy(op:Int):Bool:=bif(bif decide (0<=op)then decide (op<=8)else false)then true else bif(bif bif decide (16<=op)then decide (op<=25)else false then op !=24 else false)then true else(bif decide (32<=op)then decide (op<=40)else false)
theorem je{op:Int}(h:dy op=true):(0<=op/\op<=8)\/(16<=op/\op<=23)\/op=25\/(32<=op/\op<=40):=by
 grind [dy]
theorem qc{op:Int}(h:dy op=true):op=0\/op=1\/op=2\/op=3\/op=4\/op=5\/op=6\/op=7\/op=8\/(16<=op/\op<=23)\/op=25\/op=32\/(33<=op/\op<=37)\/op=38\/op=39\/op=40:=by
 exact Xt
structure II where
 op:Int
 dst:Int
 a:Int
 b:Int
 imm:Int
structure Sd where
 l:List Int
 SK:Int
 high:Int
structure Lw where
 code:List II
 d:Sd
 r:Sd
 flags:Int
 target:Int
 branch:Int
def Lw.add(w:Lw)(op a b imm:Int):Lw:=⟨w.code++[⟨op,J w.code,a,b,imm⟩],w.d,w.r,w.flags,w.target,w.branch⟩
def Lw.here(w:Lw):Int:=J w.code
def Lw.wtg(w:Lw)(x:Int):Lw:=⟨w.code,w.d,w.r,w.flags,x,w.branch⟩
def Lw.wbr(w:Lw)(x:Int):Lw:=⟨w.code,w.d,w.r,w.flags,w.target,x⟩
section
def II.in_(n:Int)(code:List II):Prop:=0<=n/\n<(J code:Int)
theorem sh{c:List II}{n:Int}(e:List II)(h:II.in_ n c):II.in_ n (c++e):=⟨h.1,by have:=h.2;simp;omega⟩
theorem oW(c:List II)(x:II):II.in_ (J c:Int) (c++[x]):=⟨by omega,by simp;omega⟩
end
section
variable{op:Int}
variable{x:Int}
theorem oC{t l:Li}(h:t=l++[x]):J t=J l+1:=by rw[h];simp
theorem lf(h:16<=op/\op<=23):bR op=((2,1),(0,0)):=by
 have h:op=16\/op=17\/op=18\/op=19\/op=20\/op=21\/op=22\/op=23:=by omega
 rcases h with rfl|rfl|rfl|rfl|rfl|rfl|rfl|rfl<;>rfl
theorem jump_no(h:(16<=op/\op<=23)\/op=25):(op==32||op==38)=false:=by
 grind
end
end Go.Ink
namespace Go.Ink
open List renaming length→J
open IntKind renaming wrap→V9
open Go.RowKit Go.Proofs.Tryz
section
structure Un.lines(d:Un):Prop where
 mask:0<=d.mask/\d.mask<=255
theorem nW(a b c:Int):V9 .u64 (V9 .u64 (a+b)+c)=V9 .u64 (a+(b+c)):=by
 rw[aS,aS,aS];omega
end
end Go.Ink
namespace Go.Ink
open List renaming length→J
open IntKind renaming wrap→V9
open Go.RowKit
structure jQ(w w':Lw):Prop where
 nd:w.d.SK<=w'.d.SK
 nr:w.r.SK<=w'.r.SK
 hd:w.d.high<=w'.d.high
 hr:w.r.high<=w'.r.high
theorem jQ.trans{a b c:Lw}(h:jQ a b)(k:jQ b c):jQ a c:=⟨Int.le_trans h.nd k.nd,Int.le_trans h.nr k.nr,Int.le_trans h.hd k.hd,Int.le_trans h.hr k.hr⟩
variable{a:Nat}
variable{b:Nat}
theorem iG(ha:a<4294967296)(hb:b<4294967296):a^^^b<4294967296:=Nat.xor_lt_two_pow (n:=32) ha hb
theorem tC(ha:a<4294967296):a&&&b<4294967296:=Nat.lt_of_le_of_lt Nat.and_le_left ha
section
variable{R:Li}
variable{j:Nat}
def kT(except:List Nat)(R R':Li):Prop:=∀j,j∉except->R'.getD j 0=R.getD j 0
theorem kT.trans{e e':List Nat}{A B D:Li}(h:kT e A B)(h':kT e' B D){e2:List Nat}(hs:∀x,x∈e\/x∈e'->x∈e2):kT e2 A D:=λj hj=>(h' j λhx=>hj (hs j (Or.inr hx))).trans (h j λhx=>hj (hs j (Or.inl hx)))
end
structure Pl where
  reg:List Int
  slot:List Int
  Ta:Int
abbrev Pl.r(pl:Pl)(n:Int):Int:=pl.reg.getD n.toNat 0
abbrev Pl.s(pl:Pl)(n:Int):Int:=pl.slot.getD n.toNat 0
def Pl.inR(pl:Pl)(n:Int):Bool:=decide (0<=pl.r n)
def eJ(pl:Pl)(n into:Int):Int:=bif pl.inR n then pl.r n else into
def iZ(SK high:Int)(out:Nat):Int:=if 16+SK - out<16 - high then 16+SK - out else 16 - high
section
variable{R W:Li}
structure Ry(D Rr:Li)(SE SG:Int)(R W:Li):Prop where
  z:R.getD 15 0=0
  bd:R.getD 14 0=(J D:Int) - SE
  br:R.getD 13 0=(J Rr:Int) - SG
  d:∀j,j<J D->W.getD (4+j) 0=D.getD j 0
  r:∀j,j<J Rr->W.getD (20+j) 0=Rr.getD j 0
  d16:J D<=16
  r16:J Rr<=16
  nd:0<=SE/\SE<=J D
  nr:0<=SG/\SG<=J Rr
end
theorem nm1(h:a≠b):a∉[b]:=by grind
end Go.Ink
namespace Go.Ink
open List renaming length→J, replicate→R9
open IntKind renaming wrap→V9
open Go.RowKit
theorem AN{SK high:Int}{out:Nat}:iZ SK high out<=16 - high/\iZ SK high out<=16+SK - out:=by
 grind [iZ]
theorem AO{SK high:Int}{out:Nat}(h0:0<=SK/\SK<=16)(h1:0<=high/\high<=16):iZ SK high out<=16/\(out<=16->0<=iZ SK high out):=by
 grind [iZ]
variable{T:Li}{pl:Pl}
def Up(A B:Li):Prop:=J B=J A/\∀i,A.getD i 0<=B.getD i 0
theorem Up.trans{A B D:Li}(h:Up A B)(k:Up B D):Up A D:=⟨k.1.trans h.1,λi=>Int.le_trans (h.2 i) (k.2 i)⟩
variable{n:Int}
variable{i:Nat}
def nA(T:Li)(i j:Nat):Bool:=(decide ((i:Int)<T.getD j 0)&&decide ((j:Int)<T.getD i 0))||((i:Int)==(j:Int))
def fa(T place:Li)(n:Nat)(k:Int):Nat->Bool
 |0=>false
 |i+1=>fa T place n k i||((place.getD i 0==k)&&nA T i n)
def kL(T place:Li)(n:Nat):Nat->Nat->Nat
 |0,k=>k
 |f+1,k=>bif fa T place n k (J place) then kL T place n f (k+1)else k
def fG(T place:Li)(n:Nat):Nat:=kL T place n (J place) 0
def gc(T reg:Li)(n:Nat):Nat->Nat
 |0=>n
 |k+1=>bif((reg.getD k 0 != -1)&&nA T n k)&&decide (T.getD (gc T reg n k) 0<T.getD k 0)then k else gc T reg n k
theorem zH(T place:Li)(n:Nat)(k:Int):∀m,fa T place n k m=true<->∃i,i<m/\place.getD i 0=k/\nA T i n=true
 :=by intro y1;induction y1<;>grind [fa,nA]
variable{j:Nat}
theorem Dn(h:nA T i j=false)(hij:i<j)(hT:(j:Int)<=T.getD j 0):T.getD i 0<=j:=by
 unfold nA at h;simp only[aY,Bool.and_eq_false_iff,aa]at h;omega
theorem O1(h:nA T i j=false)(hij:j<i)(hT:(i:Int)<=T.getD i 0):T.getD j 0<=i:=by
 unfold nA at h;simp only[aY,Bool.and_eq_false_iff,aa]at h;omega
theorem uH(T reg:Li)(n:Nat):∀k,gc T reg n k=n\/(gc T reg n k<k/\reg.getD (gc T reg n k) 0≠ -1/\nA T n (gc T reg n k)=true)
 |0=>Or.inl rfl
 |k+1=>by
  have e:gc T reg n (k+1)=bif((reg.getD k 0 != -1)&&nA T n k)&&decide (T.getD (gc T reg n k) 0<T.getD k 0)then k else gc T reg n k:=rfl
  cases hc:((reg.getD k 0 != -1)&&nA T n k)&&decide (T.getD (gc T reg n k) 0<T.getD k 0)with
  |true=>
   rw[hc,ae]at e;rw[e];simp only[aC,bne_iff_ne,ne_eq]at hc;exact Or.inr ⟨by omega,hc.1.1,hc.1.2⟩
  |false=>
   rw[hc,ac]at e;rw[e];rcases uH T reg n k with h|⟨h1,h2⟩
   .exact Or.inl h
   exact Or.inr ⟨by omega,h2⟩
def hI(pl:Li)(n:Int):Int:=bif n != -1 then pl.getD n.toNat 0 else n
abbrev us(U:List Bool)(n:Nat):Prop:=U.getD n false=true
variable{c:List II}
theorem Hq{c':List II}(h:II.in_ n c)(he:∃e,c'=c++e):II.in_ n c':=by grind [sh]
theorem G4{c':List II}(h:n= -1\/II.in_ n c)(he:∃e,c'=c++e):n= -1\/II.in_ n c':=by grind [Hq]
end Go.Ink
namespace Go.Ink
open List renaming length→J, replicate→R9
open IntKind renaming wrap→V9
open Go.RowKit Go.Proofs.Tryz
variable{n:Int}
theorem π:(0:Int)<=0/\(0:Int)<=15:=by decide
theorem z32:(0:Int)<=0/\(0:Int)<=4294967295:=by decide
section
theorem PG:prog.eqGuardType prog.depth 370=false:=by kernel_rfl
def r64(l:Li):Prop:=∀x,x∈l->0<=x/\x<=18446744073709551615
theorem yk{l:Li}(h:r64 l)(n:Nat):0<=l.getD n 0/\l.getD n 0<=18446744073709551615:=by
 rw[aM];by_cases hn:n<J l
 .rw[aj hn];exact h _ (List.getElem_mem hn)
 grind
end
end Go.Ink
namespace Go.Ink
open List renaming length→J, replicate→R9
open IntKind renaming wrap→V9
open Go.RowKit Go.Proofs.Tryz
section
structure ν where
 X:eN
 Am:Option Addr
 cm:Nat
 Ao:Option Addr
 co:Nat
 Ai:Option Addr
 ci:Nat
 Ak:Option Addr
 ck:Nat
structure BSl where
 A:Option Addr
 c:Nat
 l:List Int
structure ISl where
 A:Option Addr
 c:Nat
 l:List Int
end
section
open Go.MapKept
open Go.ChangeMaps (setBlock)
open Go.Maps (Keyed)
abbrev Ky:=Int×Int
def Vj(q:Ky):Value:= .agg #[.w q.1,.w q.2]
def lA(q:Ky):Prop:=(0<=q.1/\q.1<=4294967295)/\(0<=q.2/\q.2<=4294967295)
def cK{α:Type}(key:α->Ky)(k:Ky)(l:List α):Option Nat:=l.findIdx? λx=>key x==k
theorem fj{α:Type}{key:α->Ky}{k:Ky}{l:List α}{j:Nat}(h:cK key k l=some j):∃hj:j<J l,key l[j]=k:=by
 grind [cK,List.findIdx?_eq_some_iff_getElem]
section
variable{es:Array MapEntry}
theorem sr(es:Array MapEntry){j:Nat}(hj:j<J es.toList):(es.eraseIdxIfInBounds j).toList=es.toList.eraseIdx j:=by
 simp_all
end
abbrev IF:=Option (Nat×Ky×Value)
end
section
def nc(W:Li):Bool:= !((decide (16<W.getD 2 0)||decide (16<W.getD 3 0))||decide (15<W.getD 1 0))
end
end Go.Ink
namespace Go.Ink
open List renaming length→J, replicate→R9
open IntKind renaming wrap→V9
open Go.RowKit Go.Proofs.Tryz
section
open Go.MapKept
open Go.ChangeMaps (setBlock)
theorem xx(z:List Value)(k:Nat)(hz:0<J z):∀u,u∈(Builtin.zeroCells z.toArray k).toList->u∈z:=by grind [Builtin.zeroCells,Array.toList_map,Nat.mod_lt,List.getElem?_eq_getElem]
theorem xy(z:List Value)(k:Nat):(Builtin.zeroCells z.toArray k).toList.length=k*J z:=by simp[Builtin.zeroCells]
def yx(L:List (Ky×Value))(q:Ky):Nat:=(cK (·.1) q L).getD (J L)
end
variable{α:Type}{l:List α}{x:α}
theorem qq{α:Type}{f:α->List Value}{sz:Nat}(hf:∀a,J (f a)=sz):∀(l:List α) (i:Nat),(l.flatMap f).take (i*sz)=(l.take i).flatMap f
 |[],i=>by simp
 |x::l,0=>by simp
 |x::l,i+1=>by
  rw[List.flatMap_cons,List.take_succ_cons,List.flatMap_cons,<-qq hf l i,show(i+1)*sz=J (f x)+i*sz by grind,List.take_length_add_append]
variable{j:Nat}
theorem pW{β:Type}(hx:l[j]? =some x)(f:β->α->β)(b:β):(l.take (j+1)).foldl f b=f ((l.take j).foldl f b) x:=by
 grind [List.getElem?_eq_some_iff,List.take_succ_eq_append_getElem]
def cy(q:Ky):List Value:=[.w q.1,.w q.2]
theorem uM(x:Ky):∀u∈cy x,u.oneCell'=true:=λu h=>by
 simp only[cy,aI,aV,or_false]at h;rcases h with rfl|rfl<;>rfl
variable{a:Int}
theorem uN:prog.eqGuardType prog.depth 173=false:=by kernel_rfl
theorem keyKind:prog.keyType 173=true:=by kernel_rfl
theorem Ff:prog.cellsOf 173=2:=by kernel_rfl
theorem RV:(173:TypeId)<prog.types.size:=of_decide_eq_true (by kernel_rfl)
structure LS where
 A:Option Addr
 c:Nat
 ks:List Ky
def mc(k:Ky)(x:LS):LS:=⟨x.A,x.c,x.ks.filter λq=> !(q==k)⟩
def C0(k:Ky)(f:Bool)(x:Ky×LS):Ky×LS:=(x.1,bif f then mc k x.2 else x.2)
def W7(k:Ky)(F:List Bool)(L0:List (Ky×LS)):List (Ky×LS):=List.zipWith (C0 k) F L0
theorem AE(k:Ky):∀L0:List (Ky×LS),W7 k (R9 (J L0) false) L0=L0
 |[]=>rfl
 |x::L0=>by
  show C0 k false x::W7 k (R9 (J L0) false) L0=_;rw[AE k L0]
  rfl
def Bx(F:List Bool):Nat:=J (F.filter λf=> !f)
theorem ov(h:l[j]? =some x):l.Perm (x::l.eraseIdx j):=by
 grind [List.getElem?_eq_some_iff,List.eraseIdx_eq_take_drop_succ,List.perm_middle,List.getElem_cons_drop,List.take_append_drop]
section
def LkSm(LK:List (Ky×LS)):Prop:=∀x,x∈LK->lA x.1/\J x.2.ks<=1000000
def B3(keys:List Ky)(LK:List (Ky×LS)):Prop:=∀x,x∈LK->lA x.1/\x.2.ks.Nodup/\∀q,q∈x.2.ks->q∈keys
theorem AL:∀{l m:List Ky},l.Nodup->(∀x,x∈l->x∈m)->J l<=J m
 |[],m,_,_=>ay _
 |a::l,m,hn,hs=>by
  obtain⟨h1,h2⟩:=List.nodup_cons.1 hn;have hm:=hs a (List.mem_cons_self ..);have:=AL (l:=l) (m:=m.erase a) h2 (λx hx=>(List.mem_erase_of_ne (λe=>h1 Do)).2 (hs x (bo _ hx)))
  grind
variable{keys:List Ky}{LK:List (Ky×LS)}
theorem B3.sm(h:B3 keys LK)(hk:J keys<=1000000):∀x,x∈LK->lA x.1/\J x.2.ks<=1000000:=λx hx=>⟨(h x hx).1,aR (AL (h x hx).2.1 (h x hx).2.2) hk⟩
end
end Go.Ink
namespace Go.Ink
open List renaming length→J
open IntKind renaming wrap→V9
open Go.RowKit Go.Proofs.Tryz
theorem Λ{a:Int}(h:0<=a/\a<=4294967295):0<=a/64/\a/64<=67108863:=by omega
theorem yD(xs ys:Li)(h:J ys<=J xs):(xs.take (J ys)==ys)=ys.isPrefixOf xs:=by
 rw[Bool.eq_iff_iff,List.isPrefixOf_iff_prefix,beq_iff_eq];constructor
 .grind
 rintro⟨z,rfl⟩;grind
section
structure W6 where
 Ac:Option Addr
 cc:Nat
 Ad:Option Addr
 cd:Nat
 Ar:Option Addr
 cr:Nat
structure VB where
 Al:Option Addr
 cl:Nat
 Af:Option Addr
 cf:Nat
end
end Go.Ink
namespace Go.Ink
open List renaming length→J, replicate→R9
open IntKind renaming wrap→V9
open Go.RowKit Go.Proofs.Tryz
set_option maxHeartbeats 1000000
def Vg(x:Int):Bool:=decide (2147483648<=x)
variable{x:Int}
variable{a:Int}
section
abbrev j5(q:(Nat×Nat)×(Nat×Nat)):List Value:=[.i (q.1.1:Int),.i (q.1.2:Int),.i (q.2.1:Int),.i (q.2.2:Int)]
def iP(i:Int×Int):List Value:=[.i i.1,.w i.2]
theorem A0(i:Int×Int):J (iP i)=2:=rfl
variable{j:Nat}
variable{α:Type}
theorem so{α:Type}{f:α->Bool}:∀{l:List α} {j:Nat} {x:α},l[j]? =some x->f x=false->(l.eraseIdx j).filter f=l.filter f
 |[],j,x,h,_=>by simp at h
 |a::l,0,x,h,hf=>by
  grind
 |a::l,j+1,x,h,hf=>by
  show(a::l.eraseIdx j).filter f=_;rw[List.filter_cons,List.filter_cons,so (l:=l) Do hf]
theorem Hz(D:α->Bool):∀l:List α,J (l.filter D)+J (l.filter λx=> !D x)=J l
 :=by intro y1;induction y1<;>grind
end
end Go.Ink
namespace Go.Ink
open List renaming length→J, replicate→R9
open IntKind renaming wrap→V9
open Go.RowKit Go.Proofs.Tryz
section
variable{α:Type}{l:List α}{k:Nat}
abbrev span(i:Nat)(t:Int):List Value:=[.i i,.i i,.i t]
def fO:Nat->List Int->List Value
 |_,[]=>[]
 |k,t::T=> .i k:: .i k:: .i t::fO (k+1) T
theorem GA:∀(T:Li) (k:Nat) (t:Int),fO k (T++[t])=fO k T++[.i ((k+J T:Nat):Int),.i ((k+J T:Nat):Int),.i t]
 :=by intro y1;induction y1<;>grind [fO]
variable{n c:Nat}
theorem one3(a b c:Int):∀u∈([.i a,.i b,.i c]:List Value),u.oneCell'=true:=λu h=>by
 simp only[aI,aV,or_false]at h;rcases h with rfl|rfl|rfl<;>rfl
theorem and64r(n:Nat)(hn:n<=64):bits .and .u64 (n:Int) 4294967295=n:=by
 have h:∀k:Fin 65,bits .and .u64 ((k.val:Nat):Int) 4294967295=((k.val:Nat):Int):=by decide+kernel
 exact h ⟨n,by omega⟩
theorem RH(n:Nat)(hn:n<=64):(n:Int).fdiv (2^(min (32:Int).toNat IntKind.u64.bits))=0:=by
 show(n:Int).fdiv 4294967296=0
 grind
theorem mul1r(n:Nat)(hn:n<=64):V9 .u64 (1*(n:Int))=n:=by rw[aS];omega
theorem mul0r(n:Nat):V9 .u64 (0*(n:Int))=0:=by rw[Int.zero_mul];rfl
def GI(m n:Nat):List Value:=R9 m (.i (-1))++R9 (n - m) (.i 0)
variable{m:Nat}
theorem z5:(GI m n).take m=R9 m (.i (-1)):=by grind [GI]
theorem Oi:∀u∈R9 m (.i (-1):Value),u.oneCell'=true:=λu h=>by
 obtain rfl:=List.eq_of_mem_replicate h;rfl
theorem nI{l:Li}{i:Nat}(h:i<J l):l[i]? =some (l.getD i 0):=by grind
theorem PK{T l:Li}(h:kL T l n (J l - k) k=fG T l n)(hk:k<=J l)(ht:fa T l n k (J l)=false):fG T l n=k:=by
 rcases Nat.lt_or_ge k (J l) with h9|h9
 .rw[show J l - k=(J l - (k+1))+1 by omega]at h
  grind [fa,kL,fG]
 obtain rfl:k=J l:=by omega
 rw[Nat.sub_self]at h;exact h.symm
structure SAd where
 Ar:Option Addr
 cr:Nat
 As:Option Addr
 cs:Nat
 Av:Option Addr
 cv:Nat
end
end Go.Ink
namespace Go.Ink
open List renaming length→J
open IntKind renaming wrap→V9
open Go.RowKit Go.Proofs.Tryz
section
structure VZ where
 Ac:Option Addr
 cc:Nat
 Ad:Option Addr
 cd:Nat
 Ar:Option Addr
 cr:Nat
theorem one5(a b c d e:Int):∀u∈([.i a,.i b,.i c,.i d,.w e]:List Value),u.oneCell'=true:=λu h=>by
 simp only[aI,aV,or_false]at h;rcases h with rfl|rfl|rfl|rfl|rfl<;>rfl
theorem xJ(h l:Int):(if l>h then l else h)=max h l:=by omega
end
end Go.Ink
namespace Go.Ink
open List renaming length→J, replicate→R9
open IntKind renaming wrap→V9
open Go.RowKit Go.Proofs.Tryz
section
abbrev IJ(i:Int×Int):List Value:=[.i i.1,.w i.2]
variable{l:List (Int×Int)}
theorem Pn{y:Int×Int}(h:l[J l - 1]? =some y):l.getLastD (0,0)=y:=by
 grind
variable{b:Li}
variable{i:Int×Int}
theorem two1(a b:Int):∀u∈([.i a,.w b]:List Value),u.oneCell'=true:=λu h=>by
 simp only[aI,aV,or_false]at h;rcases h with rfl|rfl<;>rfl
end
end Go.Ink
namespace Go.Ink
open List renaming length→J, replicate→R9
open IntKind renaming wrap→V9
open Go.RowKit Go.Proofs.Tryz
def B6(fr:Li)(k:Nat):List Nat:=(List.range k).filter (λp=> !(fr[p]? ==some (-1)))
theorem Hh(fr:Li)(k:Nat):(B6 fr k).Nodup:=List.filter_sublist.nodup List.nodup_range
theorem E9{fr:Li}{k p:Nat}:p∈B6 fr k<->p<k/\fr[p]? ≠some (-1):=by
 grind [B6]
variable{ow:Li}
variable{α:Type}
section
structure qG where
 B:List Int
 ow:List Int
 pr:List Int
theorem DL(p q0 q1 q2 q3:α->Bool):∀l:List α,(∀x,x∈l->p x=true->q0 x=true\/q1 x=true\/q2 x=true\/q3 x=true)->J (l.filter p)<=J (l.filter q0)+J (l.filter q1)+J (l.filter q2)+J (l.filter q3)
 :=by intro y1;induction y1<;>grind
theorem DE(p:α->Bool):∀l:List α,J (l.filter p)+J (l.filter (λx=> !p x))=J l
 :=by intro y1;induction y1<;>grind
theorem wz(a b c d:Int):gQ [a,b,c,d] 4=(if 0>a then 0 else a)+(if 0>b then 0 else b)+(if 0>c then 0 else c)+(if 0>d then 0 else d):=by
 show((((0:Int)+_)+_)+_)+_=_;omega
end
end Go.Ink
namespace Go.Ink
open List renaming length→J, replicate→R9
open IntKind renaming wrap→V9
open Go.RowKit Go.Proofs.Tryz
section
def Un.Tk(d:Un)(l:Li):Nat:=min (J l) (64 - J d.inp)
structure Vm(d:Un):Prop where
 i64:J d.inp<=64
abbrev Yn:List (Int×Int):=[(1,65),(2,32784),(49,0),(69,0)]
structure vJ where
 bg:Nat
 K:gb
 bx:Nat
 by_:Nat
 bd:Nat
end
end Go.Ink
namespace Go.Ink
open List renaming length→J, replicate→R9
open IntKind renaming wrap→V9
open Go.RowKit Go.Proofs.Tryz
variable{n:Nat}
section
theorem FE{k:Int}(h:1<=k/\k<=3):UV k=k+6:=by
 obtain rfl|rfl|rfl:k=1\/k=2\/k=3:=by omega
 all_goals rfl
theorem Bw{k:Int}(h:¬(1<=k/\k<=3)):UV k=0:=by
 have e1:(k==1)=false:=by simp;omega
 have e2:(k==2)=false:=by simp;omega
 have e3:(k==3)=false:=by simp;omega
 unfold UV;rw[e1,e2,e3]
 rfl
theorem BC(n s a cmd:Nat):(((decide ((16:Int)<=(s:Int))||(((a%64:Nat):Int) !=0))|| !decide (a+1<=n*64))||((((cmd:Nat):Int) !=1)&&(((cmd:Nat):Int) !=2)))=(!ix n s a||(!(cmd==1)&& !(cmd==2))):=by
 unfold ix;have e1:decide ((16:Int)<=(s:Int))=decide (16<=s):=decide_eq_decide.2 O
 have e2:(((a%64:Nat):Int) !=0)=(a%64 !=0):=E5 (a%64) 0;have e3:(!decide (a+1<=n*64))=decide (n*64<=a):=by
  by_cases h:a+1<=n*64
  .rw[ak h,ao O];rfl
  rw[ao h,ak O];rfl
 have e4:(((cmd:Nat):Int) !=1)= !(cmd==1):=E5 cmd 1;have e5:(((cmd:Nat):Int) !=2)= !(cmd==2):=E5 cmd 2;rw[e1,e2,e3,e4,e5,Bool.not_not]
end
end Go.Ink
namespace Go.Ink
open List renaming length→J
open IntKind renaming wrap→V9
open Go.RowKit Go.Proofs.Tryz
variable{x:Value}
theorem G1(n p:Nat)(kind:Int):(decide (p+1<=n*64)||(((kind !=1)&&decide ((32768:Int)<=(p:Int)))&&decide ((p:Int)<33024)))=(decide ((p:Int)<((n*64:Nat):Int))||((kind !=1)&&iv (p:Int))):=by
 unfold iv;rw[Bool.and_assoc,decide_eq_decide.2 (show p+1<=n*64<->(p:Int)<((n*64:Nat):Int) by omega)]
section
theorem sa(d:Li):∀(l:Li) (a:Int),ef d (l++[a])=ef d l+gB d a.toNat*256^J l
 |[],a=>by simp[ef]
 |b::l,a=>by
  rw[aF,ef,sa d l a,ef,aE,Int.pow_succ,Int.mul_add,Int.mul_left_comm,Int.add_assoc,Int.mul_comm 256 (256^J l)]
theorem lR(l:Li)(x y:Int):((l++[x])++[y])[J l]? =some x:=by
 rw[aq,List.getElem?_append_right (aL _),Nat.sub_self]
 rfl
end
end Go.Ink
namespace Go.Ink
open List renaming length→J
open IntKind renaming wrap→V9
open Go.RowKit Go.Proofs.Tryz
structure It where
 kind:Int
 S2:Int
 n:Int
 b:List Int
structure ItR where
 kind:Int
 S2:Int
 n:Int
 A:Option Addr
 c:Nat
 b:List Int
end Go.Ink
