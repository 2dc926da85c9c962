/- Lemmas. -/
import Derived.Test.YtepfimeihngjoaaGreatDoorXaa
import Derived.Laws.StructEq
import Derived.Test.YtepfimeihngjoaaGreatDoorProg
import Derived.Test.YtepfimeihngjoaaGreatDoorRows
import Derived.LaidMore
import Derived.OpenShut
import Derived.Handed
import Derived.Stop.Joined
import Derived.Lib.EndianBits
import Derived.ChangeKeysEq
import Derived.Maps.Range
import Derived.DeepKeys4
set_option linter.all false
set_option maxRecDepth 100000
set_option maxHeartbeats 4000000
namespace Go.Ink
open List renaming length→J, replicate→R9
open Go.RowKit
section
open Go.ChangeShapes Go.WideShapes
theorem qc{H:Type}{enc:TypeId×Value->H}{P:Program}(hl:laidOutB P=true){W W':World}(hb:Below W.heap.size W W'):∀{ts:List TypeId} {vs:List Value} {ds:List (DataW H)} {p:List MemPlace},
  ts.all (λt=>P.readableRec t&&decide (t<P.types.size))=true->DataW.TrodAll enc P W 0 (λ_=>true) true ts vs ds p->DataW.TrodAll enc P W' 0 (λb=>decide (b<W.heap.size)) true ts vs ds p
 |[],[],[],_,_,h=>h
 |[],_::_,_,_,_,h=>by simp[DataW.TrodAll]at h
 |[],[],_::_,_,_,h=>by simp[DataW.TrodAll]at h
 |_::_,[],_,_,_,h=>by simp[DataW.TrodAll]at h
 |_::_,_::_,[],_,_,h=>by simp[DataW.TrodAll]at h
 |t::ts,v::vs,d::ds,_,ha,h=>by
  obtain⟨p,q,h1,h2,rfl⟩:=h
  simp only[List.all_cons,ay,ai]at ha
  obtain⟨⟨r1,r2⟩,r3⟩:=ha
  refine⟨p,q,Below.trod hl r1 r2 h1 hb ?_,qc hl hb r3 h2,I⟩
  obtain⟨m,hm⟩:=h1
  exact DataW.trod_lt m _ _ _ hm
theorem ux{H:Type}{enc:TypeId×Value->H}{P:Program}{W:World}{base:Nat}{sp:Nat->Bool}{hd:Bool}:∀{ts:List TypeId} {vs:List Value} {ds:List (DataW H)} {p:List MemPlace},DataW.TrodAll enc P W base sp hd ts vs ds p->J ds=J ts
 |[],[],[],_,_=>rfl
 |[],_::_,_,_,h=>by simp[DataW.TrodAll]at h
 |[],[],_::_,_,h=>by simp[DataW.TrodAll]at h
 |_::_,[],_,_,h=>by simp[DataW.TrodAll]at h
 |_::_,_::_,[],_,h=>by simp[DataW.TrodAll]at h
 |t::ts,v::vs,d::ds,_,h=>by
  obtain⟨p,q,h1,h2,rfl⟩:=h
  simp[ux h2]
end
end Go.Ink
namespace Go.Ink
open List renaming length→J
open IntKind renaming wrap→V9
open Go.RowKit Go.Proofs.Tryz
variable{n:Nat}
variable{i:Nat}
def eN(n lo hi:Int):Int:=lo+n%(hi - lo+1)
section
theorem eM(n lo hi:Int)(h:lo<=hi):lo<=eN n lo hi/\eN n lo hi<=hi:=by
 unfold eN;have h1:=Int.emod_nonneg n (show hi - lo+1≠0 by omega);have h2:=Int.emod_lt_of_pos n (show 0<hi - lo+1 by omega);omega
theorem and63(n:Nat)(h:n<4294967296):n&&&4294967232=n - n%64:=by
 have h1:n&&&4294967232=(n/64)*64:=by
  apply Nat.eq_of_testBit_eq;intro i;have e:(4294967232:Nat)=(2^26 - 1)*2^6:=by decide
  rw[e,Nat.testBit_and,show(n/64)*64=(n/2^6)*2^6 from I];rw[Nat.testBit_mul_two_pow,Nat.testBit_mul_two_pow,Nat.testBit_two_pow_sub_one,Nat.testBit_div_two_pow];by_cases hi:6<=i
  .simp only[hi,decide_true,bz,show i - 6+6=i by omega];by_cases h26:i - 6<26
   .simp[h26]
   have:n.testBit i=false:=Nat.testBit_lt_two_pow (Nat.lt_of_lt_of_le h (by
    have:2^32<=2^i:=Nat.pow_le_pow_right O O;omega))
   simp[this]
  simp[hi]
 omega
theorem own0:ownKnob prog.godebug=none:=by kernel_rfl
theorem D5:laidOutB prog=true:=by kernel_rfl
end
end Go.Ink
namespace Go.Ink
open List renaming length→J, replicate→R9
open IntKind renaming wrap→V9
open Go.RowKit Go.Proofs.Tryz
variable{b:Bool}
section
variable{α:Type}{n k:Nat}
theorem Dn(n:Nat)(a b:α):R9 n a++R9 (n - n) b=R9 n a:=by simp
theorem yY(n:Nat)(a b:α):R9 0 a++R9 (n - 0) b=R9 n b:=by simp
def nv(pr:Li)(k:Nat):Int:=(pr.take k).foldl (λs x=>s+(if 0>x then 0 else x)) 0
theorem xn{pr:Li}(h:k<J pr):nv pr (k+1)=nv pr k+(if 0>pr[k]'h then 0 else pr[k]'h):=by
 grind [nv,List.take_succ_eq_append_getElem]
end
end Go.Ink
namespace Go.Ink
open List renaming length→J, replicate→R9
open IntKind renaming wrap→V9
open Go.RowKit Go.Proofs.Tryz
section
def lC(op:Int):Bool:=decide (65<=op)&&decide (op<=69)
theorem hH{a b:Int}(h:(a==b)=true):a=b:=by simpa using h
def NV(q:(Nat×Nat)×(Nat×Nat)):Prop:=q.1.1<=3/\q.1.2<=3/\q.2.1<=3/\q.2.2<=3
end
end Go.Ink
namespace Go.Ink
open List renaming length→J
open Go.RowKit
theorem zH{α:Type}{f:α->List Value}{sz:Nat}(hf:∀a,J (f a)=sz):∀xs:List α,J (xs.flatMap f)=J xs*sz
 |[]=>by simp
 |x::xs=>by rw[List.flatMap_cons,ar,hf,zH hf xs,aE,Nat.succ_mul];omega
section
open Go.MapKept
open Go.ChangeMaps (setBlock)
open Go.Maps (Keyed)
theorem oL{es:Array MapEntry}{clock:Nat}(h:Stamped es clock){i j:Nat}{e f:MapEntry}(hi:es.toList[i]? =some e)(hj:es.toList[j]? =some f)(hk:e.key=f.key):i=j:=by
 obtain⟨h1,e1⟩:=aC.1 hi;obtain⟨h2,e2⟩:=aC.1 hj;exact(List.getElem_inj (xs:=es.toList.map (·.key)) (h₀:=by grind) (h₁:=by grind) h.2.2).1 bZ
section
variable{es:Array MapEntry}
theorem sN(es:Array MapEntry){j:Nat}(hj:j<J es.toList):(es.eraseIdxIfInBounds j).toList=es.toList.eraseIdx j:=by
 simp_all
end
end
end Go.Ink
namespace Go.Ink
open List renaming length→J, replicate→R9
open IntKind renaming wrap→V9
open Go.RowKit Go.Proofs.Tryz
section
def kL(n:Nat)(b:Li):List Int:=b++R9 (n*64 - J b) 0
end
end Go.Ink
namespace Go.Ink
open List renaming length→J
open IntKind renaming wrap→V9
open Go.RowKit
variable{l:Li}
variable{m:Li}
variable{p:Int->Prop}
theorem QR(h:∀x,x∈l->p x){y:Int}(hy:p y):∀x,x∈l++[y]->p x:=by grind
theorem tA(h:∀x,x∈l++m->p x):∀x,x∈l->p x:=by grind
theorem yd{y:Int}(h:∀x,x∈l++[y]->p x):p y:=h y cJ
end Go.Ink
namespace Go.Ink
open List renaming length→J
open IntKind renaming wrap→V9
open Go.RowKit Go.Proofs.Tryz
section
variable{x:Int}
abbrev sE:List Int:=[1,1,1,2,3,4,5,6,7,8,16,17,18,19,20,21,22,23,24,25,32,33,34,35,36,37,38,39,40,48,49,50,51,52,53,64,65,66,67,68,0,69]
section
variable{op:Int}
theorem oH{t l:Li}(h:t=l++[x]):J t=J l+1:=by rw[h];simp
theorem jump_no(h:(16<=op/\op<=23)\/op=25):(op==32||op==38)=false:=by
 grind
end
end
end Go.Ink
namespace Go.Ink
open List renaming length→J
open IntKind renaming wrap→V9
open Go.RowKit Go.Proofs.Tryz
set_option maxHeartbeats 1000000
def VH(x:Int):Bool:=decide (2147483648<=x)
def yL(op:Int):Int:=
 bif op==2 then 5 else bif(((op==1)||(decide (32<=op)&&decide (op<=38)))||(op==66))||(op==67)then 2 else
 bif(((((decide (0<=op)&&decide (op<=8))||(decide (16<=op)&&decide (op<=25)))||(op==39))||(op==40))||(decide (48<=op)&&decide (op<=53)))||(decide (64<=op)&&decide (op<=69))then 1 else 0
theorem Fw(op:Int):(∃k:Fin 70,op=(k.val:Int))\/(∀k:Int,0<=k->k<=69->(op==k)=false)/\(op<0\/69<op):=by
 by_cases h:0<=op/\op<=69
 .exact .inl ⟨⟨op.toNat,by omega⟩,by show op=((op.toNat:Nat):Int);omega⟩
 exact .inr ⟨λk h1 h2=>by simp only[bF,ne_eq];omega,by omega⟩
def fV(op:Int):(Nat×Nat)×(Nat×Nat):=
 bif op==1 then((0,1),(0,0))else bif op==2 then((0,1),(0,0))else bif op==66 then((0,1),(0,0))else bif op==3 then((1,2),(0,0))else
 bif op==4 then((1,0),(0,0))else bif op==40 then((1,0),(0,0))else bif op==67 then((1,0),(0,0))else bif op==68 then((1,0),(0,0))else
 bif op==5 then((2,2),(0,0))else bif op==6 then((2,3),(0,0))else bif op==7 then((1,0),(0,1))else bif op==8 then((0,1),(1,0))else
 bif op==25 then((2,0),(0,0))else bif op==49 then((2,0),(0,0))else bif op==51 then((2,0),(0,0))else bif op==53 then((2,0),(0,0))else
 bif op==48 then((1,1),(0,0))else bif op==50 then((1,1),(0,0))else bif op==52 then((1,1),(0,0))else
 bif op==38 then((0,0),(0,1))else bif op==39 then((0,0),(1,0))else bif decide (16<=op)&&decide (op<=24)then((2,1),(0,0))else((0,0),(0,0))
section
abbrev kk(q:(Nat×Nat)×(Nat×Nat)):List Value:=[.i (q.1.1:Int),.i (q.1.2:Int),.i (q.2.1:Int),.i (q.2.2:Int)]
end
end Go.Ink
namespace Go.Ink
open List renaming length→J, replicate→R9
open IntKind renaming wrap→V9
open Go.RowKit Go.Proofs.Tryz
section
def wG:List Int:=[0,1,28,2,29,14,24,3,30,22,20,15,25,17,4,8,31,27,13,23,21,19,16,7,26,12,18,6,11,5,10,9]
theorem Cy(k:IntKind)(x y:Int):bits .or k x y=bits .or k y x:=by
 unfold bits;simp only[BitVec.or_comm]
variable{op:Int}
def Sc(op:Int):Prop:=(0<=op/\op<=8)\/(16<=op/\op<=25)\/(32<=op/\op<=40)\/(48<=op/\op<=53)\/(64<=op/\op<=69)
end
end Go.Ink
namespace Go.Ink
open List renaming length→J
open IntKind renaming wrap→V9
open Go.RowKit Go.Proofs.Tryz
section
theorem lQ(a b c:Int):V9 .u64 (V9 .u64 (a+b)+c)=V9 .u64 (a+(b+c)):=by
 rw[aP,aP,aP];omega
end
end Go.Ink
namespace Go.Ink
open List renaming length→J
open IntKind renaming wrap→V9
open Go.RowKit
variable{a:Nat}
variable{b:Nat}
theorem nm1(h:a≠b):a∉[b]:=by grind
end Go.Ink
namespace Go.Ink
open List renaming length→J, replicate→R9
open IntKind renaming wrap→V9
open Go.RowKit
abbrev us(U:List Bool)(n:Nat):Prop:=U.getD n false=true
end Go.Ink
namespace Go.Ink
open List renaming length→J, replicate→R9
open IntKind renaming wrap→V9
open Go.RowKit Go.Proofs.Tryz
theorem z15:(0:Int)<=0/\(0:Int)<=15:=by decide
theorem z32:(0:Int)<=0/\(0:Int)<=4294967295:=by decide
section
theorem P5:prog.eqGuardType prog.depth 370=false:=by kernel_rfl
def nq(W:Li):Bool:= !((decide (16<W.getD 2 0)||decide (16<W.getD 3 0))||decide (15<W.getD 1 0))
end
end Go.Ink
namespace Go.Ink
open List renaming length→J, replicate→R9
open IntKind renaming wrap→V9
open Go.RowKit Go.Proofs.Tryz
def fY(i:Int×Int):List Value:=[.i i.1,.w i.2]
theorem BT(i:Int×Int):J (fY i)=2:=rfl
variable{l:List (Int×Int)}
section
theorem uG{l:Li}{N m:Nat}(h:min (J l) m=N):J (l.take N)=N:=by rw[aO];omega
end
end Go.Ink
namespace Go.Ink
open List renaming length→J, replicate→R9
open IntKind renaming wrap→V9
open Go.RowKit Go.Proofs.Tryz
section
open Go.MapKept
open Go.ChangeMaps (setBlock)
theorem ym(z:List Value)(k:Nat)(hz:0<J z):∀u,u∈(Builtin.zeroCells z.toArray k).toList->u∈z:=by grind [Builtin.zeroCells,Array.toList_map,Nat.mod_lt,List.getElem?_eq_getElem]
theorem yn(z:List Value)(k:Nat):(Builtin.zeroCells z.toArray k).toList.length=k*J z:=by simp[Builtin.zeroCells]
end
variable{α:Type}{l:List α}{x:α}
theorem qz{α:Type}{f:α->List Value}{sz:Nat}(hf:∀a,J (f a)=sz):∀(l:List α) (i:Nat),(l.flatMap f).take (i*sz)=(l.take i).flatMap f
 |[],i=>by simp
 |x::l,0=>by simp
 |x::l,i+1=>by
  rw[List.flatMap_cons,List.take_succ_cons,List.flatMap_cons,<-qz hf l i,show(i+1)*sz=J (f x)+i*sz by grind,List.take_length_add_append]
variable{j:Nat}
theorem qd{β:Type}(hx:l[j]? =some x)(f:β->α->β)(b:β):(l.take (j+1)).foldl f b=f ((l.take j).foldl f b) x:=by
 grind [List.getElem?_eq_some_iff,List.take_succ_eq_append_getElem]
theorem vr:prog.eqGuardType prog.depth 173=false:=by kernel_rfl
theorem keyKind:prog.keyType 173=true:=by kernel_rfl
theorem FG:prog.cellsOf 173=2:=by kernel_rfl
theorem Sn:(173:TypeId)<prog.types.size:=of_decide_eq_true pO
def Cf(F:List Bool):Nat:=J (F.filter λf=> !f)
theorem oD(h:l[j]? =some x):l.Perm (x::l.eraseIdx j):=by
 grind [List.getElem?_eq_some_iff,List.eraseIdx_eq_take_drop_succ,List.perm_middle,List.getElem_cons_drop,List.take_append_drop]
end Go.Ink
namespace Go.Ink
open List renaming length→J
open IntKind renaming wrap→V9
open Go.RowKit Go.Proofs.Tryz
theorem u32_div{a:Int}(h:0<=a/\a<=4294967295):0<=a/64/\a/64<=67108863:=by omega
theorem zu(xs ys:Li)(h:J ys<=J xs):(xs.take (J ys)==ys)=ys.isPrefixOf xs:=by
 rw[Bool.eq_iff_iff,List.isPrefixOf_iff_prefix,beq_iff_eq];constructor
 .grind
 rintro⟨z,rfl⟩;grind
section
structure Xu where
 Ac:Option Addr
 cc:Nat
 Ad:Option Addr
 cd:Nat
 Ar:Option Addr
 cr:Nat
structure VX where
 Al:Option Addr
 cl:Nat
 Af:Option Addr
 cf:Nat
end
end Go.Ink
namespace Go.Ink
open List renaming length→J, replicate→R9
open IntKind renaming wrap→V9
open Go.RowKit Go.Proofs.Tryz
section
variable{α:Type}{l:List α}{k:Nat}
abbrev span(i:Nat)(t:Int):List Value:=[.i i,.i i,.i t]
def fN:Nat->List Int->List Value
 |_,[]=>[]
 |k,t::T=> .i k:: .i k:: .i t::fN (k+1) T
theorem G7:∀(T:Li) (k:Nat) (t:Int),fN k (T++[t])=fN k T++[.i ((k+J T:Nat):Int),.i ((k+J T:Nat):Int),.i t]
 :=by intro y1;induction y1<;>grind [fN]
variable{n c:Nat}
theorem one3(a b c:Int):∀u∈([.i a,.i b,.i c]:List Value),u.oneCell'=true:=λu h=>by
 simp only[aI,aY,or_false]at h;rcases h with rfl|rfl|rfl<;>rfl
theorem and64r(n:Nat)(hn:n<=64):bits .and .u64 (n:Int) 4294967295=n:=by
 have h:∀k:Fin 65,bits .and .u64 ((k.val:Nat):Int) 4294967295=((k.val:Nat):Int):=by decide+kernel
 exact h ⟨n,by omega⟩
theorem R6(n:Nat)(hn:n<=64):(n:Int).fdiv (2^(min (32:Int).toNat IntKind.u64.bits))=0:=by
 show(n:Int).fdiv 4294967296=0
 grind
theorem mul1r(n:Nat)(hn:n<=64):V9 .u64 (1*(n:Int))=n:=by rw[aP];omega
theorem mul0r(n:Nat):V9 .u64 (0*(n:Int))=0:=by rw[Int.zero_mul];rfl
def Hg(m n:Nat):List Value:=R9 m (.i (-1))++R9 (n - m) (.i 0)
variable{m:Nat}
theorem Bb:(Hg m n).take m=R9 m (.i (-1)):=by grind [Hg]
theorem OS:∀u∈R9 m (.i (-1):Value),u.oneCell'=true:=λu h=>by
 obtain rfl:=List.eq_of_mem_replicate h;rfl
theorem nP{l:Li}{i:Nat}(h:i<J l):l[i]? =some (l.getD i 0):=by grind
structure SAd where
 Ar:Option Addr
 cr:Nat
 As:Option Addr
 cs:Nat
 Av:Option Addr
 cv:Nat
end
end Go.Ink
namespace Go.Ink
open List renaming length→J
open IntKind renaming wrap→V9
open Go.RowKit Go.Proofs.Tryz
section
structure Wq where
 Ac:Option Addr
 cc:Nat
 Ad:Option Addr
 cd:Nat
 Ar:Option Addr
 cr:Nat
theorem one5(a b c d e:Int):∀u∈([.i a,.i b,.i c,.i d,.w e]:List Value),u.oneCell'=true:=λu h=>by
 simp only[aI,aY,or_false]at h;rcases h with rfl|rfl|rfl|rfl|rfl<;>rfl
theorem JS(h l:Int):(if l>h then l else h)=max h l:=by omega
end
end Go.Ink
namespace Go.Ink
open List renaming length→J, replicate→R9
open IntKind renaming wrap→V9
open Go.RowKit Go.Proofs.Tryz
section
abbrev Jl(i:Int×Int):List Value:=[.i i.1,.w i.2]
variable{l:List (Int×Int)}
theorem PN{y:Int×Int}(h:l[J l - 1]? =some y):l.getLastD (0,0)=y:=by
 grind
end
end Go.Ink
namespace Go.Ink
open List renaming length→J
open IntKind renaming wrap→V9
open Go.RowKit Go.Proofs.Tryz
variable{w:World}
variable{j:Nat}
variable{α:Type}
theorem sK{α:Type}{f:α->Bool}:∀{l:List α} {j:Nat} {x:α},l[j]? =some x->f x=false->(l.eraseIdx j).filter f=l.filter f
 |[],j,x,h,_=>by simp at h
 |a::l,0,x,h,hf=>by
  grind
 |a::l,j+1,x,h,hf=>by
  show(a::l.eraseIdx j).filter f=_;rw[List.filter_cons,List.filter_cons,sK (l:=l) bZ hf]
theorem IA(D:α->Bool):∀l:List α,J (l.filter D)+J (l.filter λx=> !D x)=J l
 :=by intro y1;induction y1<;>grind
section
variable{b:Li}
variable{i:Int×Int}
theorem two1(a b:Int):∀u∈([.i a,.w b]:List Value),u.oneCell'=true:=λu h=>by
 simp only[aI,aY,or_false]at h;rcases h with rfl|rfl<;>rfl
end
end Go.Ink
