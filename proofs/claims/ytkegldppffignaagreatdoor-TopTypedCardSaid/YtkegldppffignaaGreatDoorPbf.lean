/- For every input the law TopTyped answers true and leaves every argument as it was; the table of math/bits is what the program's text lays (the card ties it); no other condition. -/
import Derived.Test.YtkegldppffignaaGreatDoorPaa
import Derived.Test.YtkegldppffignaaGreatDoorPab
import Derived.Test.YtkegldppffignaaGreatDoorPac
import Derived.Test.YtkegldppffignaaGreatDoorPba
import Derived.Test.YtkegldppffignaaGreatDoorPbb
import Derived.Test.YtkegldppffignaaGreatDoorRows
import Derived.JoinedOf
import Derived.Test.YtkegldppffignaaGreatDoorCards
import Derived.Test.YtkegldppffignaaGreatDoorTie
import Derived.SevenTiedAt
set_option linter.unusedSimpArgs false
set_option linter.unusedVariables false
set_option maxRecDepth 100000
set_option maxHeartbeats 4000000
namespace Go.Ink
open Go.RowKit
abbrev typA:List Int:=[2,128,0,0,0,67,3,2,2,0,0,0,2,4,128,0,0,49,1,1,67,0,32,254]
abbrev typH:List Int:=[2,2,0,0,0,2,0,128,0,0,49,2,24,128,0,0,48,2,0,0,0,0,25,33,14,2,20,128,0,0,48,2,16,128,0,0,49,32,228,65]
def Fp:List Int:=typA++(List.replicate 104 0++(typH++List.replicate 24 0))
abbrev F0:Int:=fe 0 0
def TS(pc:Int)(d:List Int)(fl:Int)(ie x:Bool)(c:Int):St:={St.new with pc:=pc,d:=d,flags:=fl,ie:=ie,vec:=128,epc:=bif x then 22 else 0,MR:=bif x then 17 else 0,M1:=x,eie:=x,count:=c}
abbrev TD(p:Int)(o i k:List Int)(a b:Nat)(e:Int):Dev:=⟨p,2,0,o,i,k,a,b,e⟩
abbrev TU(tu:List Bool):Mmu:=⟨⟨Fp,tu⟩,dz⟩
section
variable {tu:List Bool} {o i k:List Int} {a b:Nat} {e c:Int}
theorem ty_i0(x y:Bool):cT 3 (TS 22 [] (bif y then F0 else 0) true x c) (TU tu) (TD 0 o i k a b e)=(TS 22 [] (bif y then F0 else 0) true x (w1 c),TU jY,TD 0 o i k a b e):=by
 cases y<;>kernel_rfl
theorem ty_i2(x y:Bool):cT 3 (TS 22 [] (bif y then F0 else 0) true x c) (TU tu) (TD 2 o i k a b e)=(TS 139 [] (bif y then F0 else 0) false true (w3 c),TU jY,TD 0 o i k a b e):=by
 cases y<;>kernel_rfl
theorem ty_a(y z:Bool):cT 3 (TS 139 [] (bif y then F0 else 0) false true c) (TU tu) (TD (bif z then 2 else 0) o i k a b e)=(TS 145 [(i.length:Int)] (bif y then F0 else 0) false true (w1 (w1 c)),TU jY,TD (bif z then 2 else 0) o i k a b e):=by
 cases y<;>cases z<;>kernel_rfl
theorem ty_b0(y z:Bool):cT 3 (TS 145 [0] (bif y then F0 else 0) false true c) (TU tu) (TD (bif z then 2 else 0) o i k a b e)=(TS 167 [] F0 false true (w3 c),TU jY,TD (bif z then 2 else 0) o i k a b e):=by
 cases y<;>cases z<;>kernel_rfl
theorem ty_c(z:Bool):cT 3 (TS 153 [] 0 false true c) (TU tu) (TD (bif z then 2 else 0) o i k a b e)=(TS 159 [gB i 0] 0 false true (w1 (w1 c)),TU jY,TD (bif z then 2 else 0) o i.tail k a b e):=by
 cases z<;>kernel_rfl
theorem ty_d(z:Bool)(ch:Nat):cT 3 (TS 159 [(ch:Int)] 0 false true c) (TU tu) (TD (bif z then 2 else 0) o i k a b e)=(TS 165 [] 0 false true (w1 (w1 c)),TU jY,TD (bif z then 2 else 0) (o++[IntKind.u8.wrap ch]) i k a b e):=by
 cases z<;>kernel_rfl
theorem ty_e(z:Bool):cT 3 (TS 165 [] 0 false true c) (TU tu) (TD (bif z then 2 else 0) o i k a b e)=(TS 139 [] 0 false true (w1 c),TU jY,TD (bif z then 2 else 0) o i k a b e):=by
 cases z<;>kernel_rfl
theorem ty_f(z:Bool):cT 3 (TS 167 [] F0 false true c) (TU tu) (TD (bif z then 2 else 0) o i k a b e)=(TS 22 [] F0 true true (w1 c),TU jY,TD (bif z then 2 else 0) o i k a b e):=by
 cases z<;>kernel_rfl
theorem nz_all:(List.range 65).all (λw:Nat=>(w==0)||(fe (w:Int) 0==0))=true:=by decide+kernel
theorem less_nz{w:Nat}(h0:1<=w)(h1:w<=64):fe (w:Int) 0=0:=by
 have h:=bo.1 nz_all w (List.mem_range.2 Wq1);rw[Bool.or_eq_true]at h;rcases h with h|h
 .have:=eq_of_beq h;omega
 exact eq_of_beq h
theorem ty_b2(z:Bool):dZ 3 2 6 (TS 151 [] 0 false true (w1 (w1 c))) (((145+5)%4294967296+1)%4294967296) (TU jY) (TD (bif z then 2 else 0) o i k a b e)=(TS 153 [] 0 false true (w3 c),TU jY,TD (bif z then 2 else 0) o i k a b e):=by
 cases z<;>kernel_rfl
theorem ty_b1(y z:Bool){w:Nat}(h0:1<=w)(h1:w<=64):cT 3 (TS 145 [(w:Int)] (bif y then F0 else 0) false true c) (TU tu) (TD (bif z then 2 else 0) o i k a b e)=(TS 153 [] 0 false true (w3 c),TU jY,TD (bif z then 2 else 0) o i k a b e):=by
 have e1:cT 3 (TS 145 [(w:Int)] (bif y then F0 else 0) false true c) (TU tu) (TD (bif z then 2 else 0) o i k a b e)=dZ 3 2 8 (TS 145 [(w:Int)] (bif y then F0 else 0) false true c) 145 (TU tu) (TD (bif z then 2 else 0) o i k a b e):=by
  cases y<;>cases z<;>kernel_rfl
 have f1:cZ 3 (TU tu).m 145=some ((2,0),5):=by kernel_rfl
 have d1:mq 3 (TS 145 [(w:Int)] (bif y then F0 else 0) false true c) 2 0 (TU tu) (TD (bif z then 2 else 0) o i k a b e)=(⟨TS 150 [(w:Int),0] (bif y then F0 else 0) false true (w1 c),false,false,[]⟩,TU jY,TD (bif z then 2 else 0) o i k a b e):=by
  cases y<;>cases z<;>kernel_rfl
 have n1:jg 2 ⟨TS 150 [(w:Int),0] (bif y then F0 else 0) false true (w1 c),false,false,[]⟩ 2 (TS 145 [(w:Int)] (bif y then F0 else 0) false true c).pc=true:=by
  cases y<;>kernel_rfl
 have f2:cZ 3 (TU jY).m ((145+5)%4294967296)=some ((25,0),1):=by kernel_rfl
 have d2:mq 3 (TS 150 [(w:Int),0] (bif y then F0 else 0) false true (w1 c)) 25 0 (TU jY) (TD (bif z then 2 else 0) o i k a b e)=(⟨TS 151 [] (fe (w:Int) 0) false true (w1 (w1 c)),false,false,[]⟩,TU jY,TD (bif z then 2 else 0) o i k a b e):=by
  cases y<;>cases z<;>kernel_rfl
 have n2:jg 25 ⟨TS 151 [] (fe (w:Int) 0) false true (w1 (w1 c)),false,false,[]⟩ 2 (TS 150 [(w:Int),0] (bif y then F0 else 0) false true (w1 c)).pc=true:=by kernel_rfl
 rw[e1,wQ f1 d1 n1];dsimp only;rw[wQ f2 d2 n2];dsimp only;rw[less_nz h0 h1];exact ty_b2 z
theorem Jy{U:Mmu}{k:List Int}(hU:U.m.data=Fp)(ht:U.t=dz):
  cT 3 St.new U ⟨0,0,0,[],[],k,0,0,0⟩=({St.new with pc:=7,vec:=128,count:=2},TU jY,⟨0,0,0,[],[],k,0,0,0⟩)/\
  cT 3 {St.new with pc:=7,vec:=128,count:=2} (TU jY) ⟨0,0,0,[],[],k,0,0,0⟩=({St.new with pc:=18,vec:=128,count:=5},TU jY,TD 0 [] [] k 0 0 0)/\
  cT 3 {St.new with pc:=18,vec:=128,count:=5} (TU jY) (TD 0 [] [] k 0 0 0)=(TS 22 [] 0 true false 7,TU jY,TD 0 [] [] k 0 0 0):=by
 obtain⟨⟨data,tu⟩,t⟩:=U;dsimp only at hU ht;subst hU ht;exact⟨by kernel_rfl,by kernel_rfl,by kernel_rfl⟩
end
theorem mJ{n:Nat}{B:Nat->Cfg}{cnt:Nat->Nat}(hl:∀i,(B i).1.halted=false)(hB:∀i,cT n (B i).1 (B i).2.1 (B i).2.2=B (i+1))(hc:∀i,(B i).1.count=IntKind.u64.wrap (cnt i:Int))(h1:∀i,cnt i<cnt (i+1))(h3:∀i,cnt (i+1)<=cnt i+8){m:Int}(hm:m<=1000000){a:Nat}:∀(f i:Nat),cnt a<=cnt i->cnt i<=cnt a+1000008->m<=((cnt i - cnt a:Nat):Int)+f->
  ∃j,i<=j/\kK n m (IntKind.u64.wrap (cnt a:Int)) f (B i)=B j/\m<=((cnt j - cnt a:Nat):Int)
 |0,i,q1,q2,q3=>⟨i,aM _,rfl,by omega⟩
 |f+1,i,q1,q2,q3=>by
  have hci:=hc i;have hli:=hl i;cases hrc:eL m (IntKind.u64.wrap (cnt a:Int)) (B i).1 with
  |false=>
   refine⟨i,aM _,jn (q:=B i) hrc,?_⟩;unfold eL at hrc;simp only[hli,hci,aQ]at hrc;by_cases e:0<m
   .rw[ax e]at hrc;simp only[Bool.true_and,Bool.not_false,ah]at hrc;omega
   omega
  |true=>
   rw[po (q:=B i) hrc,hB i];unfold eL at hrc;simp only[hci,aQ,aL,aj]at hrc;have e3:=hrc.2;have k1:=h1 i;have k3:=h3 i;by_cases hja:m<=((cnt (i+1) - cnt a:Nat):Int)
   .refine⟨i+1,by omega,jn (q:=B (i+1)) ?_,hja⟩;unfold eL;simp only[hc (i+1),aQ];rw[aw (show¬((cnt (i+1):Int)%18446744073709551616 - (cnt a:Int)%18446744073709551616)%18446744073709551616<m by omega),Bool.and_false]
   obtain⟨x,x1,x2,x3⟩:=mJ hl hB hc h1 h3 hm (a:=a) f (i+1) Wq1 Wq1 Wq1;exact⟨x,by omega,x2,x3⟩
structure TC where
 ph:Nat
 w:Nat
 y:Bool
 x:Bool
 z:Bool
 c:Nat
 o:List Int
 i:List Int
 tu:List Bool
section
variable (k:List Int) (a b:Nat) (e:Int)
def TC.s(t:TC):St:=
 match t.ph with
 |0=>TS 22 [] (bif t.y then F0 else 0) true t.x (IntKind.u64.wrap (t.c:Int))
 |1=>TS 139 [] (bif t.y then F0 else 0) false true (IntKind.u64.wrap (t.c:Int))
 |2=>TS 145 [(t.w:Int)] (bif t.y then F0 else 0) false true (IntKind.u64.wrap (t.c:Int))
 |3=>TS 153 [] 0 false true (IntKind.u64.wrap (t.c:Int))
 |4=>TS 159 [(t.w:Int)] 0 false true (IntKind.u64.wrap (t.c:Int))
 |5=>TS 165 [] 0 false true (IntKind.u64.wrap (t.c:Int))
 |_=>TS 167 [] F0 false true (IntKind.u64.wrap (t.c:Int))
def TC.cfg(t:TC):Cfg:=(t.s,TU t.tu,TD (bif t.z then 2 else 0) t.o t.i k a b e)
def TC.next(t:TC):TC:=
 match t.ph with
 |0=>bif t.z then⟨1,0,t.y,true,false,t.c+3,t.o,t.i,jY⟩else⟨0,0,t.y,t.x,false,t.c+1,t.o,t.i,jY⟩
 |1=>⟨2,t.i.length,t.y,true,t.z,t.c+2,t.o,t.i,jY⟩
 |2=>bif t.w==0 then⟨6,0,true,true,t.z,t.c+3,t.o,t.i,jY⟩else⟨3,0,false,true,t.z,t.c+3,t.o,t.i,jY⟩
 |3=>⟨4,(gB t.i 0).toNat,false,true,t.z,t.c+2,t.o,t.i.tail,jY⟩
 |4=>⟨5,0,false,true,t.z,t.c+2,t.o++[(t.w:Int)],t.i,jY⟩
 |5=>⟨1,0,false,true,t.z,t.c+1,t.o,t.i,jY⟩
 |_=>⟨0,0,true,true,t.z,t.c+1,t.o,t.i,jY⟩
structure TC.ok(t:TC):Prop where
 ph:t.ph<=6
 u8:u8s t.i
 i64:t.i.length<=64
 w0:t.ph=0->t.z=false->t.i=[]
 w2:t.ph=2->t.w<=64/\(t.w=0->t.z=false->t.i=[])/\(t.w≠0->t.i≠[])
 w3:t.ph=3->t.i≠[]
 w4:t.ph=4->t.w<=255
 w6:t.ph=6->t.z=false->t.i=[]
theorem ww(c:Nat):w1 (w1 (IntKind.u64.wrap (c:Int)))=IntKind.u64.wrap ((c+2:Nat):Int):=by rw[oQ,oQ]
theorem www(c:Nat):w3 (IntKind.u64.wrap (c:Int))=IntKind.u64.wrap ((c+3:Nat):Int):=by show w1 (w1 (w1 _))=_;rw[oQ,oQ,oQ]
theorem TC.step{t:TC}(h:t.ok):cT 3 (t.cfg k a b e).1 (t.cfg k a b e).2.1 (t.cfg k a b e).2.2=t.next.cfg k a b e:=by
 obtain⟨ph,w,y,x,z,c,o,i,tu⟩:=t;obtain⟨h1,h2,h3,h4,h5,h6,h7,h8⟩:=h;dsimp only at h1 h2 h3 h4 h5 h6 h7 h8;obtain rfl|rfl|rfl|rfl|rfl|rfl|rfl:ph=0\/ph=1\/ph=2\/ph=3\/ph=4\/ph=5\/ph=6:=by omega
 .cases z with
  |false=>
   refine(ty_i0 (tu:=tu) (o:=o) (i:=i) (k:=k) (a:=a) (b:=b) (e:=e) (c:=IntKind.u64.wrap (c:Int)) x y).trans ?_;rw[oQ]
   rfl
  |true=>
   refine(ty_i2 (tu:=tu) (o:=o) (i:=i) (k:=k) (a:=a) (b:=b) (e:=e) (c:=IntKind.u64.wrap (c:Int)) x y).trans ?_;rw[www]
   rfl
 .refine(ty_a (tu:=tu) (o:=o) (i:=i) (k:=k) (a:=a) (b:=b) (e:=e) (c:=IntKind.u64.wrap (c:Int)) y z).trans ?_;rw[ww]
  rfl
 .obtain⟨a1, -,a3⟩:=h5 rfl;cases w with
  |zero=>
   refine(ty_b0 (tu:=tu) (o:=o) (i:=i) (k:=k) (a:=a) (b:=b) (e:=e) (c:=IntKind.u64.wrap (c:Int)) y z).trans ?_;rw[www]
   rfl
  |succ w=>
   refine(ty_b1 (tu:=tu) (o:=o) (i:=i) (k:=k) (a:=a) (b:=b) (e:=e) (c:=IntKind.u64.wrap (c:Int)) y z (w:=w+1) Wq1 a1).trans ?_;rw[www]
   rfl
 .refine(ty_c (tu:=tu) (o:=o) (i:=i) (k:=k) (a:=a) (b:=b) (e:=e) (c:=IntKind.u64.wrap (c:Int)) z).trans ?_;rw[ww,show gB i 0=(((gB i 0).toNat:Nat):Int)from(Int.toNat_of_nonneg (ji h2 0).1).symm]
  rfl
 .have a1:=h7 rfl;have q:=ty_d (tu:=tu) (o:=o) (i:=i) (k:=k) (a:=a) (b:=b) (e:=e) (c:=IntKind.u64.wrap (c:Int)) z w;rw[show IntKind.u8.wrap (w:Int)=(w:Int) by rw[rG];omega,ww]at q;exact q
 .refine(ty_e (tu:=tu) (o:=o) (i:=i) (k:=k) (a:=a) (b:=b) (e:=e) (c:=IntKind.u64.wrap (c:Int)) z).trans ?_;rw[oQ]
  rfl
 refine(ty_f (tu:=tu) (o:=o) (i:=i) (k:=k) (a:=a) (b:=b) (e:=e) (c:=IntKind.u64.wrap (c:Int)) z).trans ?_;rw[oQ]
 rfl
theorem TC.ok.next{t:TC}(h:t.ok):t.next.ok:=by
 obtain⟨ph,w,y,x,z,c,o,i,tu⟩:=t;obtain⟨h1,h2,h3,h4,h5,h6,h7,h8⟩:=h;dsimp only at h1 h2 h3 h4 h5 h6 h7 h8;obtain rfl|rfl|rfl|rfl|rfl|rfl|rfl:ph=0\/ph=1\/ph=2\/ph=3\/ph=4\/ph=5\/ph=6:=by omega
 .cases z with
  |false=>exact⟨by simp[TC.next],h2,h3,λ_ _=>h4 rfl rfl,by simp[TC.next],by simp[TC.next],by simp[TC.next],by simp[TC.next]⟩
  |true=>exact⟨by simp[TC.next],h2,h3,by simp[TC.next],by simp[TC.next],by simp[TC.next],by simp[TC.next],by simp[TC.next]⟩
 .refine⟨by simp[TC.next],h2,h3,by simp[TC.next],λ_=>⟨h3,λq _=>List.eq_nil_of_length_eq_zero q,λq r=>q (by show i.length=0;rw[show i=[]from r];rfl)⟩,by simp[TC.next],by simp[TC.next],by simp[TC.next]⟩
 .obtain⟨a1,a2,a3⟩:=h5 rfl;cases w with
  |zero=>exact⟨by simp[TC.next],h2,h3,by simp[TC.next],by simp[TC.next],by simp[TC.next],by simp[TC.next],λ_ q=>a2 rfl q⟩
  |succ w=>exact⟨by simp[TC.next],h2,h3,by simp[TC.next],by simp[TC.next],λ_=>a3 Wq1,by simp[TC.next],by simp[TC.next]⟩
 .refine⟨by simp[TC.next],λv hv=>h2 v (List.mem_of_mem_tail hv),?_,by simp[TC.next],by simp[TC.next],by simp[TC.next],λ_=>?_,by simp[TC.next]⟩
  .show i.tail.length<=64;rw[List.length_tail];omega
  show(gB i 0).toNat<=255;have:=ji h2 0;omega
 .exact⟨by simp[TC.next],h2,h3,by simp[TC.next],by simp[TC.next],by simp[TC.next],by simp[TC.next],by simp[TC.next]⟩
 .exact⟨by simp[TC.next],h2,h3,by simp[TC.next],by simp[TC.next],by simp[TC.next],by simp[TC.next],by simp[TC.next]⟩
 exact⟨by simp[TC.next],h2,h3,λ_ q=>h8 rfl q,by simp[TC.next],by simp[TC.next],by simp[TC.next],by simp[TC.next]⟩
def TC.mu(t:TC):Nat:=
 match t.ph with
 |0=>bif t.z then 5*t.i.length+4 else 0
 |1=>5*t.i.length+3+(bif t.z then 4 else 0)
 |2=>bif t.w==0 then 2+(bif t.z then 5*t.i.length+4 else 0)else 4+(5*(t.i.length - 1)+3+(bif t.z then 4 else 0))
 |3=>3+(5*(t.i.length - 1)+3+(bif t.z then 4 else 0))
 |4=>2+(5*t.i.length+3+(bif t.z then 4 else 0))
 |5=>1+(5*t.i.length+3+(bif t.z then 4 else 0))
 |_=>1+(bif t.z then 5*t.i.length+4 else 0)
def TC.all(t:TC):List Int:=t.o++((if t.ph=4 then[(t.w:Int)]else[])++t.i)
theorem TC.Nw{t:TC}(h:t.ok):t.next.mu=t.mu - 1/\t.next.all=t.all/\t.c<t.next.c/\t.next.c<=t.c+3:=by
 obtain⟨ph,w,y,x,z,c,o,i,tu⟩:=t;obtain⟨h1,h2,h3,h4,h5,h6,h7,h8⟩:=h;dsimp only at h1 h2 h3 h4 h5 h6 h7 h8;obtain rfl|rfl|rfl|rfl|rfl|rfl|rfl:ph=0\/ph=1\/ph=2\/ph=3\/ph=4\/ph=5\/ph=6:=by omega
 .cases z with
  |false=>simp[TC.next,TC.mu,TC.all]
  |true=>simp[TC.next,TC.mu,TC.all]
 .refine⟨?_,by simp[TC.next,TC.all],by simp[TC.next],by simp[TC.next]⟩;show(bif i.length==0 then 2+(bif z then 5*i.length+4 else 0)else 4+(5*(i.length - 1)+3+(bif z then 4 else 0)))=5*i.length+3+(bif z then 4 else 0) - 1;by_cases q:i.length=0
  .rw[q];cases z<;>rfl
  rw[beq_eq_false_iff_ne.2 q,aa];cases z<;>simp<;>omega
 .obtain⟨a1,a2,a3⟩:=h5 rfl;cases w with
  |zero=>cases z<;>simp[TC.next,TC.mu,TC.all]<;>omega
  |succ w=>cases z<;>simp[TC.next,TC.mu,TC.all]<;>omega
 .have a1:=h6 rfl;refine⟨?_,?_,by simp[TC.next],by simp[TC.next]⟩
  .show 2+(5*i.tail.length+3+(bif z then 4 else 0))=3+(5*(i.length - 1)+3+(bif z then 4 else 0)) - 1;rw[List.length_tail];omega
  match i,a1,h2 with
  |v::vs,_,h2=>
   have hv:=h2 v cE;show o++([(((gB (v::vs) 0).toNat:Nat):Int)]++vs)=o++([]++(v::vs));rw[show gB (v::vs) 0=v from rfl,Int.toNat_of_nonneg hv.1]
   rfl
 .refine⟨?_,by simp[TC.next,TC.all],by simp[TC.next],by simp[TC.next]⟩;show 1+(5*i.length+3+(bif z then 4 else 0))=2+(5*i.length+3+(bif z then 4 else 0)) - 1;omega
 .refine⟨?_,by simp[TC.next,TC.all],by simp[TC.next],by simp[TC.next]⟩;show 5*i.length+3+(bif z then 4 else 0)=1+(5*i.length+3+(bif z then 4 else 0)) - 1;omega
 refine⟨?_,by simp[TC.next,TC.all],by simp[TC.next],by simp[TC.next]⟩;show(bif z then 5*i.length+4 else 0)=1+(bif z then 5*i.length+4 else 0) - 1;omega
theorem TC.NP{t:TC}(h:t.ok)(hm:t.mu=0):t.ph=0/\t.z=false/\t.i=[]/\t.o=t.all:=by
 obtain⟨ph,w,y,x,z,c,o,i,tu⟩:=t;obtain⟨h1,h2,h3,h4,h5,h6,h7,h8⟩:=h;dsimp only at h1 h2 h3 h4 h5 h6 h7 h8|-;obtain rfl|rfl|rfl|rfl|rfl|rfl|rfl:ph=0\/ph=1\/ph=2\/ph=3\/ph=4\/ph=5\/ph=6:=by omega
 .cases z with
  |false=>
   have e0:=h4 rfl rfl;exact⟨rfl,rfl,e0,by simp[TC.all,e0]⟩
  |true=>simp[TC.mu]at hm
 .simp[TC.mu]at hm
 .cases hw:(w==0)<;>simp[TC.mu,hw]at hm
 .simp[TC.mu]at hm
 .simp[TC.mu]at hm
 .simp[TC.mu]at hm
 simp[TC.mu]at hm
def TC.it(t:TC):Nat->TC
 |0=>t
 |i+1=>(t.it i).next
theorem TC.Nx{t:TC}(h:t.ok):∀i,(t.it i).ok/\(t.it i).mu=t.mu - i/\(t.it i).all=t.all/\(t.it i).c<=t.c+3*i/\t.c<=(t.it i).c
 |0=>⟨h,rfl,rfl,aM _,aM _⟩
 |i+1=>by
  obtain⟨h1,h2,h3,h4,h5⟩:=TC.Nx h i;obtain⟨m1,m2,m3,m4⟩:=TC.Nw h1
  exact⟨h1.next,by show(t.it i).next.mu=_;rw[m1,h2];omega,by show(t.it i).next.all=_;rw[m2,h3],by show(t.it i).next.c<=_;omega,by show _<=(t.it i).next.c;omega⟩
theorem TC.Nr(t:TC):t.s.halted=false/\t.s.count=IntKind.u64.wrap (t.c:Int):=by
 unfold TC.s;split<;>exact⟨rfl,rfl⟩
theorem xU{t:TC}(h:t.ok){m:Int}(hm:m<=1000000):∃t':TC,t'.ok/\t'.all=t.all/\(3*(t.mu:Int)<=m->t'.mu=0)/\eW 3 m (t.cfg k a b e).1 (t.cfg k a b e).2.1 (t.cfg k a b e).2.2=t'.cfg k a b e:=by
 obtain⟨j, -,h2,h3⟩:=mJ (n:=3) (B:=λi=>(t.it i).cfg k a b e) (cnt:=λi=>(t.it i).c) (λi=>(TC.Nr _).1) (λi=>TC.step k a b e (TC.Nx h i).1) (λi=>(TC.Nr _).2) (λi=>(TC.Nw (TC.Nx h i).1).2.2.1) (λi=>aW (TC.Nw (TC.Nx h i).1).2.2.2 Wq1) (m:=m) hm (a:=0) m.toNat 0 (aM _) Wq1 Wq1;obtain⟨k1,k2,k3,k4,k5⟩:=TC.Nx h j;refine⟨t.it j,k1,k3,λq=>?_,?_⟩
 .rw[k2];have h3:m<=(((t.it j).c - t.c:Nat):Int):=h3;omega
 unfold eW;rw[show(t.cfg k a b e).1.count=IntKind.u64.wrap (t.c:Int)from(TC.Nr t).2];exact h2
theorem zU{t:TC}(h:t.ok){v:Int}(hv:0<=v/\v<=255)(h64:t.i.length<64):TC.ok ⟨t.ph,t.w,t.y,t.x,true,t.c,t.o,t.i++[v],t.tu⟩/\TC.all ⟨t.ph,t.w,t.y,t.x,true,t.c,t.o,t.i++[v],t.tu⟩=t.all++[v]:=by
 refine⟨⟨h.ph,λx hx=>?_,?_,λ_ q=>(by cases q),λq=>⟨(h.w2 q).1,λ_ r=>(by cases r),λ_ r=>?_⟩,λq r=>?_,h.w4,λ_ q=>(by cases q)⟩,?_⟩
 .rcases aS.1 hx with q|q
  .exact h.u8 x q
  rw[aK.1 q];exact hv
 .show(t.i++[v]).length<=64;rw[ae];simp;omega
 .simp at r
 .simp at r
 show t.o++((if t.ph=4 then[(t.w:Int)]else[])++(t.i++[v]))=(t.o++((if t.ph=4 then[(t.w:Int)]else[])++t.i))++[v];simp
theorem TC.mu_le{t:TC}(h:t.ok):t.mu<=5*t.i.length+20:=by
 have h1:=h.ph;unfold TC.mu;split<;>(try omega)<;>(try (cases t.z<;>simp<;>omega))
 cases t.z<;>cases(t.w==0)<;>simp<;>omega
end
theorem zV{U:Mmu}{k:List Int}(hU:U.m.data=Fp)(ht:U.t=dz):∃t:TC,t.ok/\t.o=[]/\t.i=[]/\t.all=[]/\eW 3 30 St.new U ⟨0,0,0,[],[],k,0,0,0⟩=t.cfg k 0 0 0:=by
 obtain⟨b1,b2,b3⟩:=Jy hU ht (k:=k);have hok:TC.ok ⟨0,0,false,false,false,7,[],[],jY⟩:=⟨aq _,λx hx=>(by cases hx),aq _,λ_ _=>rfl,λq=>(by cases q),λq=>(by cases q),λq=>(by cases q),λq=>(by cases q)⟩;obtain⟨t0,ht0⟩:∃t:TC,(⟨0,0,false,false,false,7,[],[],jY⟩:TC)=t:=⟨_,rfl⟩;have c0:t0.c=7:=by rw[<-ht0]
 have a0:t0.all=[]:=by rw[<-ht0];rfl
 have i0:t0.i=[]/\t0.o=[]/\t0.ph=0/\t0.z=false:=by rw[<-ht0];exact⟨rfl,rfl,rfl,rfl⟩
 have g0:t0.cfg k 0 0 0=(TS 22 [] 0 true false 7,TU jY,TD 0 [] [] k 0 0 0):=by rw[<-ht0];rfl
 rw[ht0]at hok;obtain⟨B,hB⟩:∃B:Nat->Cfg,B=λi=>if i=0 then(St.new,U,⟨0,0,0,[],[],k,0,0,0⟩)else if i=1 then({St.new with pc:=7,vec:=128,count:=2},TU jY,⟨0,0,0,[],[],k,0,0,0⟩)else if i=2 then({St.new with pc:=18,vec:=128,count:=5},TU jY,TD 0 [] [] k 0 0 0)else(t0.it (i - 3)).cfg k 0 0 0:=⟨_,rfl⟩
 obtain⟨cnt,hcnt⟩:∃c:Nat->Nat,c=λi=>if i=0 then 0 else if i=1 then 2 else if i=2 then 5 else(t0.it (i - 3)).c:=⟨_,rfl⟩
 have B3:∀i,B (i+3)=(t0.it i).cfg k 0 0 0:=λi=>by rw[hB];rfl
 have C3:∀i,cnt (i+3)=(t0.it i).c:=λi=>by rw[hcnt];rfl
 have B0:B 0=(St.new,U,⟨0,0,0,[],[],k,0,0,0⟩):=by rw[hB];rfl
 have B1:B 1=({St.new with pc:=7,vec:=128,count:=2},TU jY,⟨0,0,0,[],[],k,0,0,0⟩):=by rw[hB];rfl
 have B2:B 2=({St.new with pc:=18,vec:=128,count:=5},TU jY,TD 0 [] [] k 0 0 0):=by rw[hB];rfl
 have C0:cnt 0=0:=by rw[hcnt];rfl
 have C1:cnt 1=2:=by rw[hcnt];rfl
 have C2:cnt 2=5:=by rw[hcnt];rfl
 have hlt:∀i,cnt i<cnt (i+1)/\cnt (i+1)<=cnt i+8:=λi=>by
  match i with
  |0=>rw[C0,C1];decide
  |1=>rw[C1,C2];decide
  |2=>rw[C2,C3 0,show(t0.it 0).c=7 from c0];decide
  |i+3=>
   obtain⟨-, -,m3,m4⟩:=TC.Nw (TC.Nx hok i).1
   rw[C3 i,show i+3+1=(i+1)+3 by omega,C3 (i+1)];show(t0.it i).c<(t0.it i).next.c/\(t0.it i).next.c<=_
   omega
 obtain⟨j, -,h2,h3⟩:=mJ (n:=3) (B:=B) (cnt:=cnt) (λi=>by
  match i with
  |0=>rw[B0];rfl
  |1=>rw[B1];rfl
  |2=>rw[B2];rfl
  |i+3=>rw[B3];exact(TC.Nr _).1) (λi=>by
  match i with
  |0=>rw[B0,B1];exact b1
  |1=>rw[B1,B2];exact b2
  |2=>rw[B2,B3 0];show _=t0.cfg k 0 0 0;rw[g0];exact b3
  |i+3=>rw[B3 i,show i+3+1=(i+1)+3 by omega,B3 (i+1)];exact TC.step k 0 0 0 (TC.Nx hok i).1) (λi=>by
  match i with
  |0=>rw[B0,C0];rfl
  |1=>rw[B1,C1];rfl
  |2=>rw[B2,C2];rfl
  |i+3=>rw[B3,C3];exact(TC.Nr _).2) (λi=>(hlt i).1) (λi=>(hlt i).2) (m:=30) Wq5 (a:=0) 30 0 (aM _) Wq1 Wq1
 have hj:3<=j:=by
  rw[C0]at h3
  match j with
  |0=>rw[C0]at h3;simp at h3
  |1=>rw[C1]at h3;simp at h3
  |2=>rw[C2]at h3;simp at h3
  |j+3=>omega
 obtain⟨q,rfl⟩:∃q,j=q+3:=⟨j - 3,by omega⟩;obtain⟨k1,k2,k3, -⟩:=TC.Nx hok q;have hmu:t0.mu=0:=by unfold TC.mu;rw[i0.2.2.1,i0.2.2.2];rfl
 obtain⟨-, -,z3,z4⟩:=TC.NP k1 Wq1;refine⟨t0.it q,k1,by rw[z4,k3,a0],z3,by rw[k3,a0],?_⟩;unfold eW;rw[<-B3 q,<-h2,B0,C0]
 rfl
def ln(out:List Int)(q:Cfg):Prop:=∃t:TC,t.ok/\t.all=out/\t.cfg (Dev.init []).M4 0 0 0=q
theorem zT{U:Mmu}(hU:U.m.data=Fp)(ht:U.t=dz):ln [] (eW 3 30 St.new U (Dev.init [])):=by
 obtain⟨t,h1, -, -,h4,h5⟩:=zV (k:=(Dev.init []).M4) hU ht;exact⟨t,h1,h4,h5.symm⟩
theorem Jx{out:List Int}{s:St}{U:Mmu}{d:Dev}(h:ln out (s,U,d)){m:Int}(hm:m<=1000000):ln out (eW 3 m s U d):=by
 obtain⟨t,h1,h2,h3⟩:=h;obtain⟨t',k1,k2, -,k4⟩:=xU (k:=(Dev.init []).M4) (a:=0) (b:=0) (e:=0) h1 hm;rw[h3]at k4;exact⟨t',k1,k2.trans h2,k4.symm⟩
theorem TC.i_le(t:TC):t.i.length<=t.all.length:=by
 unfold TC.all;rw[ae,ae];omega
theorem Dm{out:List Int}{s:St}{U:Mmu}{d:Dev}(h:ln out (s,U,d))(ho:out.length<64){v:Int}(hv:0<=v/\v<=255):d.inp.length<64/\d.Nd [v]=1/\ln (out++[v]) (s,U,d.M7 [v]):=by
 obtain⟨t,h1,h2,h3⟩:=h;obtain⟨rfl,rfl,rfl⟩:t.s=s/\TU t.tu=U/\TD (bif t.z then 2 else 0) t.o t.i (Dev.init []).M4 0 0 0=d:=by
  have:=bJ h3;exact⟨this.1,(bJ this.2).1,(bJ this.2).2⟩
 have hl:t.i.length<64:=by have:=t.i_le;rw[h2]at this;omega
 obtain⟨k1,k2⟩:=zU h1 hv hl;have hN:Dev.Nd (TD (bif t.z then 2 else 0) t.o t.i (Dev.init []).M4 0 0 0) [v]=1:=by
  show min 1 (64 - t.i.length)=1;omega
 refine⟨hl,hN,_,k1,k2.trans (by rw[h2]),?_⟩;unfold Dev.M7;rw[hN];obtain⟨ph,w,y,x,z,c,o,i,tu⟩:=t;cases z<;>kernel_rfl
theorem ln.len{out:List Int}{s:St}{U:Mmu}{d:Dev}(h:ln out (s,U,d)):d.inp.length<=out.length/\d.out.length<=out.length:=by
 obtain⟨t,h1,h2,h3⟩:=h;have:=bJ h3;rw[<-(bJ this.2).2,<-h2];refine⟨t.i_le,?_⟩;show t.o.length<=_;unfold TC.all;rw[ae];omega
theorem Fj{out:List Int}{s:St}{U:Mmu}{d:Dev}(h:ln out (s,U,d)):∀s' U' d',eW 3 3000 s U d=(s',U',d')->d'.out=out/\d'.inp=[]/\d'.M5=0/\s'.halted=false/\s'.ie=true/\s'.d=[]:=λs' U' d' hr=>by
 obtain⟨t,h1,h2,h3⟩:=h;obtain⟨t',k1,k2,k3,k4⟩:=xU (k:=(Dev.init []).M4) (a:=0) (b:=0) (e:=0) h1 (m:=3000) Wq5;rw[h3]at k4;have hmu:=TC.mu_le h1;have h64:=h1.i64;obtain⟨z1,z2,z3,z4⟩:=TC.NP k1 (k3 Wq1);have e:t'.cfg (Dev.init []).M4 0 0 0=(s',U',d'):=k4.symm.trans hr;have:=bJ e;rw[<-this.1,<-(bJ this.2).2];obtain⟨ph,w,y,x,z,c,o,i,tu⟩:=t';dsimp only at z1 z2 z3 z4;subst z1 z2 z3;exact⟨z4.trans (k2.trans h2),rfl,rfl,rfl,rfl,rfl⟩
abbrev typI1:List (Int×Int):=[(2,128),(67,3),(2,2),(2,32772),(49,0),(1,1),(67,0),(32,254)]
abbrev typI2:List (Int×Int):=[(2,2),(2,32768),(49,0),(2,32792),(48,0),(2,0),(25,0),(33,14),(2,32788),(48,0),(2,32784),(49,0),(32,228),(65,0)]
theorem Fo:eG typI1=typA:=by decide
theorem Fm:eG typI2=typH:=by decide
def typX:List Int:=typA++List.replicate 168 0
theorem Fl:(ints .u8 (List.replicate 192 0)).take 0++(ints .u8 typA).take (min 24 192)++(ints .u8 (List.replicate 192 0)).drop (0+min 24 192)=ints .u8 typX:=by kernel_rfl
theorem Fk:(ints .u8 typX).take 128++(ints .u8 typH).take (min 40 (192 - 128))++(ints .u8 typX).drop (128+min 40 (192 - 128))=ints .u8 Fp:=by kernel_rfl
theorem wi:Fp.length=192:=by kernel_rfl
theorem typ_u8:u8s Fp:=by
 intro x hx;simp only[Fp,typA,typH,aS,aJ,List.mem_replicate,List.not_mem_nil,or_false]at hx;omega
end Go.Ink
namespace Go.Proofs.YtkegldppffignaaGreatDoor
open Go.RowKit Go.Ink Go.Proofs.Tryz
attribute [local irreducible] OpY bS
theorem zX(A A2:Option Addr)(c c2:Nat)(b0 ns:List Int)(hb0:u8s b0)(w:World)(h0:Rd w .u8 A b0.length c b0)(h2:Rd w .i64 A2 ns.length c2 ns)(ht:iG w):
  Ctr prog 4 [.slice A b0.length c,.slice A2 ns.length c2] w [] (λv cs=>v= .bool true/\cs=[]):=by
 have HK:=λw=>tW A c b0 40 w h0.cap
 have h:Rd w .u8 A (b0.take 40).length c (b0.take 40):=jo h0 40;have hb:u8s (b0.take 40):=λx hx=>hb0 x (bj hx)
 have hbl:(b0.take 40).length<=40:=by rw[aB];omega
 obtain⟨b,hbb⟩:=Zgn (b0.take 40);rw[hbb]at h hb hbl HK;have HC1:=λA c w h=>o3 A c typI1 (show(8:Nat)<=1000 by decide) w h
 have HC2:=λA c w h=>o3 A c typI2 (show(14:Nat)<=1000 by decide) w h
 rw[Fo,show typA.length=24 from rfl]at HC1;rw[Fm,show typH.length=40 from rfl]at HC2;have hcp1:=Fl;have hcp2:=Fk;have HN:=λA c w hA=>lw 3 Wq5 Wq5 A none c 0 Fp [] (by rw[wi];decide) typ_u8 Wq5 (λx hx=>by cases hx) true w hA (wV w .u8)
 have hE0:=zT (U:=⟨Mem.load 3 Fp,dz⟩) ((Mem.Nt (by rw[wi];decide)).trans (by rw[wi];exact az _)) rfl;unfold imgV at HN;rw[wi]at HN;obtain⟨B0,hB0⟩:=Zgn (Fp);obtain⟨X0,hX0⟩:=Zgn (typX);obtain⟨l1,hl1⟩:=Zgn (typA);obtain⟨l2,hl2⟩:=Zgn (typH);rw[hB0]at HN hE0 hcp2;rw[hX0]at hcp1 hcp2;rw[hl1]at HC1 hcp1;rw[hl2]at HC2 hcp2;have HG:∀(H:rp) (G:Gst) (B1 W0 P0:List Int),Jg H.L.bp 0 3 B1 W0 P0 B0 [] true H G->H.L.n=3/\G.ok 3/\GIn G.d/\ln [] (eW 3 30 G.s G.U G.d)/\G.d.out.length<=0:=λH G B1 W0 P0 h=>⟨h.hn,h.ok,by rw[h.hd];exact Hm [],by rw[h.hs,h.hu,h.hd];exact hE0,by rw[h.hd];exact aM _⟩
 refine bN func4 rfl ntmps4 rfl (Inv.start w) ?_;refine Z_8 ?_;refine ZSe (λw hi=>HK w) ?_;refine Z_5 ?_;refine gj (kO (bytes:=1) (n:=192) rfl rfl rfl rfl rfl rfl rfl Wq1 gS) rfl ?_;rintro _ _ ⟨b11,rfl,rfl⟩;rw[oe];refine Z_6 ?_;refine ZSe (λw hi=>gC _ w) ?_;refine ZSe (λw hi=>j6 _ _ w) ?_;refine ZSe (λw hi=>gC _ w) ?_;refine ZSe (λw hi=>gC _ w) ?_;refine ZSe (λw hi=>jG _ w) ?_;refine ZSe (λw hi=>j6 _ _ w) ?_;refine ZSe (λw hi=>j6 _ _ w) ?_;refine ZSe (λw hi=>j6 _ _ w) ?_;refine ro ?_;rintro _ _ ⟨b21,rfl,rfl⟩;refine ZS (λw hi=>HC1 (some ⟨b21,0,none⟩) 8 w (hi.rd (show Has _ (slv 27 2 (some ⟨b21,0,none⟩) 8 8 (typI1.flatMap dR))from Zh))) ?_;rintro _ _ ⟨_,⟨A1,c1,rfl,rfl⟩,rfl⟩;refine gj (u9 rfl rfl Za rfl rfl (λw hi=>hi.rd (show Has _ (sl .u8 5 A1 24 c1 l1)from Zh)) cN Wq1) rfl ?_;rintro _ _ ⟨rfl,rfl⟩;rw[hcp1];refine iT [sl .u8 5 (some ⟨b11,0,none⟩) 192 192 X0] Zj ?_;refine Z_3 ?_;refine iR ⟨λj=>List.elem j [18],[]⟩ [(0,0),(1,0),(2,2),(3,2),(4,2),(5,2),(6,2),(7,2),(8,2),(9,2),(10,2),(11,2),(12,2),(13,2),(14,2),(15,2),(16,2),(17,2),(18,2)] Zk Zk ?_;refine cW rfl (fZ Zv0) rfl ?_;refine cW rfl (kL (sz:=1) (lo:=128) (hi:=192) (r:=128) rfl Zrf (Zv rfl) (.inr ⟨_,_,rfl,(Zv rfl)⟩) (.inl ⟨rfl,rfl⟩) Wq1 Wq1 Wq1 Wq1) rfl ?_;refine fo rfl ?_;refine dO rfl rfl (cU rfl (λ_ _=>rfl) (λw hi=>gC _ w)) ZJ rfl ?_;rintro _ _ ⟨_,⟨rfl,rfl⟩,rfl⟩;refine fo rfl ?_;refine dO rfl rfl (cU rfl (λ_ _=>rfl) (λw hi=>gC _ w)) ZJ rfl ?_;rintro _ _ ⟨_,⟨rfl,rfl⟩,rfl⟩;refine fo rfl ?_;refine dO rfl rfl (cU rfl (λ_ _=>rfl) (λw hi=>jG _ w)) ZJ rfl ?_;rintro _ _ ⟨_,⟨rfl,rfl⟩,rfl⟩;refine fo rfl ?_;refine dO rfl rfl (cU rfl (λ_ _=>rfl) (λw hi=>gC _ w)) ZJ rfl ?_;rintro _ _ ⟨_,⟨rfl,rfl⟩,rfl⟩;refine fo rfl ?_;refine dO rfl rfl (cU rfl (λ_ _=>rfl) (λw hi=>jG _ w)) ZJ rfl ?_;rintro _ _ ⟨_,⟨rfl,rfl⟩,rfl⟩;refine fo rfl ?_;refine dO rfl rfl (cU rfl (λ_ _=>rfl) (λw hi=>gC _ w)) ZJ rfl ?_;rintro _ _ ⟨_,⟨rfl,rfl⟩,rfl⟩;refine fo rfl ?_;refine dO rfl rfl (cU rfl (λ_ _=>rfl) (λw hi=>jG _ w)) ZJ rfl ?_;rintro _ _ ⟨_,⟨rfl,rfl⟩,rfl⟩;refine fo rfl ?_;refine dO rfl rfl (cU rfl (λ_ _=>rfl) (λw hi=>j6 _ _ w)) ZJ rfl ?_;rintro _ _ ⟨_,⟨rfl,rfl⟩,rfl⟩;refine fo rfl ?_;refine dO rfl rfl (cU rfl (λ_ _=>rfl) (λw hi=>gC _ w)) ZJ rfl ?_;rintro _ _ ⟨_,⟨rfl,rfl⟩,rfl⟩;refine fo rfl ?_;refine dO rfl rfl (cU rfl (λ_ _=>rfl) (λw hi=>jG _ w)) ZJ rfl ?_;rintro _ _ ⟨_,⟨rfl,rfl⟩,rfl⟩;refine fo rfl ?_;refine dO rfl rfl (cU rfl (λ_ _=>rfl) (λw hi=>gC _ w)) ZJ rfl ?_;rintro _ _ ⟨_,⟨rfl,rfl⟩,rfl⟩;refine fo rfl ?_;refine dO rfl rfl (cU rfl (λ_ _=>rfl) (λw hi=>jG _ w)) ZJ rfl ?_;rintro _ _ ⟨_,⟨rfl,rfl⟩,rfl⟩;refine fo rfl ?_;refine dO rfl rfl (cU rfl (λ_ _=>rfl) (λw hi=>j6 _ _ w)) ZJ rfl ?_;rintro _ _ ⟨_,⟨rfl,rfl⟩,rfl⟩;refine fo rfl ?_;refine dO rfl rfl (cU rfl (λ_ _=>rfl) (λw hi=>jG _ w)) ZJ rfl ?_;rintro _ _ ⟨_,⟨rfl,rfl⟩,rfl⟩;refine fo rfl ?_;refine dO rfl rfl (iw rfl rfl Zrf Zrf rfl rfl rfl) ZJ rfl ?_;rintro _ _ ⟨b40,rfl,rfl⟩;refine fo rfl ?_;refine dO rfl rfl (cU rfl (λ_ _=>rfl) (λw hi=>HC2 (some ⟨b40,0,none⟩) 14 w (hi.rd (show Has _ (slv 27 2 (some ⟨b40,0,none⟩) 14 14 (typI2.flatMap dR))from Zh)))) ZJ rfl ?_;rintro _ _ ⟨_,⟨A2',c2',rfl,rfl⟩,rfl⟩;refine fo rfl ?_;refine dO rfl rfl (u9 rfl rfl Za rfl rfl (λw hi=>hi.rd (show Has _ (sl .u8 5 A2' 40 c2' l2)from .tail _ (.tail _ (.head _ _)))) cN Wq1) ZJ rfl ?_;rintro _ _ ⟨rfl,rfl⟩;rw[hcp2];refine eU ?_;refine Z_3 ?_;refine iT [sl .u8 5 (some ⟨b11,0,none⟩) 192 192 B0] Zj ?_;refine Z_2 ?_;refine ZS (λw hi=>HN (some ⟨b11,0,none⟩) 192 w (hi.rd (show Has _ (sl .u8 5 (some ⟨b11,0,none⟩) 192 192 B0)from Zh))) ?_;rintro _ _ ⟨_,⟨H,G,hBo,rfl,rfl⟩,rfl⟩;obtain⟨hn1,hG,hI,hE,ho⟩:=HG H G _ _ _ hBo;clear hBo;have HR:=λw hi ht=>lf H G Wq1 (hn1.symm▸hG) 30 Wq5 Wq5 (by rw[show(30:Int).toNat=30 from rfl];omega) w hi ht
 rw[hn1]at HR;have hI2:=Me (n:=3) (s:=G.s) (U:=G.U) 30 hI;refine dS ?_;refine fS ?_;refine Z_5 ?_;refine ZcL (gsF H G) (λw hi hin=>HR w hin (λw' hk=>RdV.M6 ht hi Zi hk)) ?_;rintro _ _ ⟨_,⟨G2,⟨hG2,hr2, -⟩,rfl,rfl⟩,rfl⟩;rw[<-hr2]at hE hI2;dsimp only at hI2;refine Z_5 ?_;refine iT (gsF H G2) Zj ?_;refine Z_4 ?_;refine cq (λq:Nat×Gst=>[(0,.slice A b.length c),(1,.slice A2 ns.length c2),(6,.pointer (some ⟨H.bg,0,none⟩)),(7,.int .i64 (q.1:Int))]) (λq=>gsF H q.2) (λq=>q.2.ok 3/\GIn q.2.d/\ln (b.take q.1) (q.2.s,q.2.U,q.2.d)/\q.1<=b.length) (λq=>b.length - q.1) ((⟨0,G2⟩:Nat×Gst)) ?_ ?_ ?_ ?_
 .exact⟨hG2,hI2,hE,aq _⟩
 .exact Zwk
 .exact Zu
 rintro⟨k,⟨s,X,Y,U,d,o⟩⟩ ⟨hG,hI,hE,hk⟩;dsimp only at hG hI hE hk|-;have hg:=hG.g;dsimp only at hg;obtain⟨hd16,hr16, -⟩:=St.fits hg.right;have hkl:(b.take k).length=k:=List.length_take_of_le hk;have hle:=hE.len;refine Z_9 ?_;refine ZW ?_ ?_<;>intro hc10
 .simp only[aj]at hc10;have hkb:k<b.length:=Wq1;obtain⟨ad,rfl⟩:=h.some_ Wq1;have hx:=ai hkb;obtain⟨x,hxx⟩:=Zgn (b[k]'hkb);rw[hxx]at hx;have hxb:0<=x/\x<=255:=hb x (hxx▸List.getElem_mem hkb);have hxu:u8s [x]:=(λy hy=>by rw[aK.1 hy];exact hxb);obtain⟨m1,m2,m3⟩:=Dm hE Wq1 hxb;obtain⟨g3,g4⟩:=oX hg hI hxu;have HI:=λA w hi h=>pQ H ⟨s,X,Y,U,d,o⟩ hI.i64 A 1 [x] cE w hi h
  dsimp only at HI;rw[m2]at HI;obtain⟨d2,hd2⟩:=Zgn (d.M7 [x]);rw[hd2]at HI m3 g3 g4;rw[show b.take k++[x]=b.take (k+1) by rw[List.take_add_one,hx];rfl]at m3;have hle2:=m3.len;rw[aB]at hle2;refine dS ?_;refine uR ?_;refine dN (bQ Zrf Zv0) (eo h (cR hx)) rfl ?_;refine jO ?_;rintro _ _ ⟨b61,rfl,rfl⟩;refine ZcL (gsF H ⟨s,X,Y,U,d,o⟩) (λw hi hin=>HI (some ⟨b61,0,none⟩) w hin (λw' hk=>hi.NE Zi (show Has _ (slv 5 1 (some ⟨b61,0,none⟩) 1 1 (ints .u8 [x]))from Zh) hk)) ?_;rintro _ _ ⟨_,⟨Y2,rfl,rfl⟩,rfl⟩;refine Z_3 ?_;refine fS ?_;refine dS ?_;refine ZW ?_ ?_<;>intro hc14
  .have hkn:k<ns.length:=(by have:=hc14;simp only[aj]at this;omega);obtain⟨ad2,rfl⟩:=h2.some_ Wq1;have hy:=ai hkn;obtain⟨y,hyy⟩:=Zgn (ns[k]'hkn);rw[hyy]at hy;obtain⟨m,hm⟩:=Zgn (kM y 0 9);have hmr:=ke y 0 9 Wq5;rw[hm]at hmr;have HW:=λw=>hm▸kr y 0 9 w Wq5 Wq5 Wq5
   have HR:=λY w hi ht=>lf H ⟨s,X,Y,U,d2,o⟩ Wq1 (hn1.symm▸(⟨g3,hG.e⟩:Gst.ok 3 ⟨s,X,Y,U,d2,o⟩)) m Wq1 Wq1 (by dsimp only;omega) w hi ht
   rw[hn1]at HR;dsimp only at HR;have hE2:=Jx m3 (m:=m) Wq1;have hI2:=Me (n:=3) (s:=s) (U:=U) m g4;refine Z_4 ?_;refine uR ?_;refine dN (bQ Zrf Zv0) (eo h2 (cR hy)) rfl ?_;refine ZSe (λw hi=>HW w) ?_;refine ZcL (gsF H ⟨s,X,Y2,U,d2,o⟩) (λw hi hin=>HR Y2 w hin (λw' hk=>RdV.M6 ht hi Zi hk)) ?_;rintro _ _ ⟨_,⟨G3,⟨hG3,hr3, -⟩,rfl,rfl⟩,rfl⟩;rw[<-hr3]at hE2 hI2;dsimp only at hI2;refine Z_5 ?_;refine Wq8 ?_;refine bX ((⟨k+1,G3⟩:Nat×Gst)) ?_ ?_ ?_
   .exact⟨⟨hG3,hI2,hE2,show k+1<=b.length by omega⟩,show b.length - (k+1)<b.length - k by omega⟩
   .exact Zwk
   exact Zj
  refine Z_5 ?_;refine Wq8 ?_;refine bX ((⟨k+1,⟨s,X,Y2,U,d2,o⟩⟩:Nat×Gst)) ?_ ?_ ?_
  .exact⟨⟨⟨g3,hG.e⟩,g4,m3,show k+1<=b.length by omega⟩,show b.length - (k+1)<b.length - k by omega⟩
  .exact Zwk
  exact Zj
 simp only[ah]at hc10;rw[List.take_of_length_le Wq1]at hE hle;have HR:=λw hi ht=>lf H ⟨s,X,Y,U,d,o⟩ Wq1 (hn1.symm▸hG) 3000 Wq5 Wq5 (by rw[show(3000:Int).toNat=3000 from rfl];dsimp only;omega) w hi ht
 rw[hn1]at HR;dsimp only at HR;have hEnd:=Fj hE;refine Z_8 ?_;refine ZcL (gsF H ⟨s,X,Y,U,d,o⟩) (λw hi hin=>HR w hin (λw' hk=>RdV.M6 ht hi Zi hk)) ?_;rintro _ _ ⟨_,⟨⟨s2,X2,Y2,U2,d2,o2⟩,⟨hG2,hr2, -⟩,rfl,rfl⟩,rfl⟩;obtain⟨e1,e2,e3,e4,e5,e6⟩:=hEnd s2 U2 d2 hr2.symm;have hg2:=hG2.g;dsimp only at hg2;obtain⟨he16,hf16, -⟩:=St.fits hg2.right;refine Z_5 ?_;refine ZS (λw hi=>i5 H ⟨s2,X2,Y2,U2,d2,o2⟩ w (hi.get Zh) (hi.NM (show Has _ (slD s2 X2.Ad X2.cd)from Zh) (show Has _ (slR s2 X2.Ar X2.cr)from Zh) (by show s2.d.length*4<=_;omega) (by show s2.r.length*4<=_;omega))) ?_;rintro _ _ ⟨_,⟨A3,c3,A4,c4,rfl,rfl⟩,rfl⟩;refine ZN λb8=>?_
 refine ZM ?_;refine Z_3 ?_;refine bU ⟨λj=>List.elem j [],[]⟩ Zk ?_;refine gO ?_;refine ZFe 2 0 ?_;refine ZG 3 ?_;refine ZE 4 ?_;refine ZFe 5 2 ?_;refine ZG 6 ?_;refine ZE 9 ?_;refine we (λw hi=>jf (h.MZ hi)) (λhrd89=>?_);refine dD 10 rfl Zk Zk Zk Zk (je rfl rfl rfl Zv0 hrd89) (λw hi=>RdV.M8 (h.MZ hi)) rfl ?_;refine cn 7 Zk ?_;refine ZT (λw hi=>nj H.D.bcn Y2.Ao Y2.co d2.out Y2.Ai d2.inp.length Y2.ci (by rw[e1];omega) w (hi.get Zh) (hi.get Zh)) ?_;rintro _ _ ⟨_,⟨A5,c5,rfl,rfl⟩,rfl⟩;refine we (λw hi=>jf (hi.rd (show Has _ (sl .u8 5 A5 d2.out.length c5 d2.out)from Zh))) (λhrd87=>?_);refine dD 8 rfl Zk Zk Zk Zk (je rfl rfl rfl (Zv rfl) hrd87) (λw hi=>RdV.M8 (hi.rd (show Has _ (sl .u8 5 A5 d2.out.length c5 d2.out)from Zh))) rfl ?_;refine cG 11 rfl Zk Zk Zk (my rfl (Zv rfl) (Zv rfl) (show _=true from(kQ (e1.symm▸hb) hb).trans (by rw[e1];exact beq_self_eq_true _))) rfl ?_;refine ZE 12 ?_;refine ZF 13 ?_;refine ZF 14 ?_;refine ZFf 15 0 ?_;refine qO 16 rfl Zk Zk Zk Zk (bR rfl rfl) (bQ Zrf (dh rfl)) (cu Zh rfl) rfl ?_;refine ZF 17 ?_;refine ZFf 18 2 ?_;refine qO 19 rfl Zk Zk Zk Zk (bR rfl rfl) (bQ Zrf (dh rfl)) (cu Zh rfl) rfl ?_;refine cn 20 Zk ?_;refine sj rfl rfl (bR rfl rfl) rfl (cU rfl (λ_ _=>rfl) (λw hi=>pX H.D.bcn Y2.Ao d2.out.length Y2.co Y2.Ai d2.inp.length Y2.ci w (hi.get Zh))) ZJ rfl ?_;rintro _ _ ⟨_,⟨rfl,rfl⟩,rfl⟩;refine Df 21 rfl Zk Zk Zk (bR rfl rfl) (jc (dh rfl) (Zv rfl) (show _=true from by rw[e2];rfl)) rfl ?_;refine ZE 22 ?_;refine ZE 23 ?_;refine ZFf 24 15 ?_;refine qO 25 rfl Zk Zk Zk Zk (bR rfl rfl) (bQ Zrf (dh rfl)) (cu Zh (congrArg (λb=>some (Value.bool b)) e4)) rfl ?_;refine ZF 26 ?_;refine ZE 27 ?_;refine ZE 28 ?_;refine ZFf 29 6 ?_;refine qO 30 rfl Zk Zk Zk Zk (bR rfl rfl) (bQ Zrf (dh rfl)) (cu Zh (congrArg (λb=>some (Value.bool b)) e5)) rfl ?_;refine ZE 31 ?_;refine ZE 32 ?_;refine ZFf 33 1 ?_;refine qO 34 rfl Zk Zk Zk Zk (bR rfl rfl) (bQ Zrf (dh rfl)) (cu Zh rfl) rfl ?_;refine ZF 35 ?_;refine Df 36 rfl Zk Zk Zk (bR rfl rfl) (jc (dh rfl) (Zv rfl) (show _=true from by rw[e6];rfl)) rfl ?_;refine ZE 37 ?_;refine ZE 38 ?_;refine ZF 39 ?_;refine ZF 40 ?_;refine ZFf 41 0 ?_;refine qO 42 rfl Zk Zk Zk Zk (bR rfl rfl) (bQ Zrf (dh rfl)) (cu Zh rfl) rfl ?_;refine ZF 43 ?_;refine ZFf 44 0 ?_;refine qO 45 rfl Zk Zk Zk Zk (bR rfl rfl) (bQ Zrf (dh rfl)) (cu Zh rfl) rfl ?_;refine cn 46 Zk ?_;refine sj rfl rfl (bR rfl rfl) rfl (cU rfl (λ_ _=>rfl) (λw hi=>qr H.D.bi d2.M5 d2.mask w (hi.get Zh))) ZJ rfl ?_;rintro _ _ ⟨_,⟨rfl,rfl⟩,rfl⟩;refine Df 47 rfl Zk Zk Zk (bR rfl rfl) (jc (dh rfl) (Zv rfl) (show _=true from by rw[e3];rfl)) rfl ?_;refine ZE 48 ?_;refine ZE 49 ?_;refine cn 50 Zk ?_;refine sj rfl rfl (bR rfl rfl) rfl (cU rfl (λ_ _=>rfl) (λw hi=>p5 w (ht.old hi))) ZJ rfl ?_;rintro _ _ ⟨_,⟨rfl,rfl⟩,rfl⟩;refine ZE 51 ?_;refine ZE 52 ?_;refine dx ?_;refine Z_2 ?_;refine Zra ?_;exact de
open Go
set_option maxRecDepth 100000 in
set_option maxHeartbeats 0 in
theorem uA:joinedFacts checked.prog 4 f4 Rows.topTypedSpec Rows.topTypedRow=true:=by
 unfold joinedFacts
 repeat refine andI ?_ Wq6
 as_aux_lemma=>kernel_rfl
set_option maxHeartbeats 0 in
theorem wn:f4.isInstance checked.prog Rows.topTypedRow.origin Rows.topTypedRow.targs:=of_decide_eq_true (by kernel_rfl)
set_option maxHeartbeats 0 in
theorem wk:f4.isWrapper checked.prog Rows.topTypedRow.wrapper Rows.topTypedRow.mainSum:=of_decide_eq_true (by kernel_rfl)
set_option maxHeartbeats 0 in
theorem uz:checked.prog.funcNamed Rows.topTypedRow.func=some 4:=by kernel_rfl
theorem fa{W:World}(h:laidMetH prog Rows.topTypedRow.laid W):iG W:=
 kj (t:=262) (e:=5) (Ni:=uy) h (MakeChecks.laidMetH_plain _ _ _ Wq6) rfl (g:=0) Wq6 Wq6 Wq6 Wq6 Wq6 rfl gS
theorem i7(os:Os)(args:Array Value):laidMetH prog Rows.topTypedRow.laid ((World.doorLaid prog 400 os).forCall (λ_ _=>0) ⟨#[],args,[]⟩).memory:=
 laidMetH_of_parts3 (fuel:=8) (laidMet_of_run' 8 Wq6 Wq6) Wq6 Wq6
set_option maxRecDepth 100000 in
theorem sw(os:Os)(started:os.Started)(H:Type)(enc:TypeId×Value->H):
  ReturnsInHanded {} checked os 4 .any (λw args=>(Rows.topTypedSpec.pre enc prog f4 [] false w args/\laidMetH prog Rows.topTypedRow.laid w)/\sizedMet enc prog f4 (OpenSpec.ofChange Rows.topTypedSpec) false w args) (Rows.topTypedSpec.post enc prog f4 false true false false):=
 lz (C:=checked) (ts:=[22,60]) own0 started Wq6 func4
  (ChangeSpec.witness_shaped (enc:=enc) (C:=checked) (os:=os) (X:=λw _=>laidMetH prog Rows.topTypedRow.laid w) false (World.doorLaid prog 400 os) #[.slice none 0 0,.slice none 0 0] 8 rfl (World.shaped_of_RefB Wq6 Wq6) Wq6 Wq6 Wq6 (i7 os _))
  rfl rfl rfl rfl (λds h=>by match ds,h with|[_,_],_=>rfl) AO Wq6 (λW vs h hx=>by
   have ht:=fa hx;obtain⟨v0,_,rfl,a0,v1,_,rfl,a1,rfl⟩:=h;obtain⟨A,c,b,rfl,h1, -,hb⟩:=a0.ints (e:=5) (k:= .u8) rfl rfl rfl;obtain⟨A2,c2,ns,rfl,h2, -, -⟩:=a1.ints (e:=3) (k:= .i64) rfl rfl rfl;exact nP (zX A A2 c c2 b ns (λx hx=>Jo (hb x hx)) W h1 h2 ht))
set_option maxHeartbeats 0 in
theorem wm:Rows.TopTypedSaid:=
 OpenClaim.holds_of_wide 4 f4 rfl rfl rfl rfl rfl rfl rfl ⟨rfl,rfl,rfl,rfl,rfl⟩ rfl rfl rfl rfl rfl uz func4 uA wn wk
  (λos started H enc _=>sw os started H enc)
set_option maxHeartbeats 0 in
theorem topTyped_holds:Rows.TopTypedCardSaid:=
 Claim7.holds_tied_plain_at .later [] [.data] true Rows.topTypedCard.stood.harness false
  wm (λ_ h=>by cases h) Wq6 (λ_ h=>by cases h) topTyped_row_tie rfl ⟨rfl,rfl⟩ Wq6 rfl
  (λf fn hf hfn=>by
   obtain rfl:f=4:=ay ((show prog.funcNamed "innkeeper/innkeepertop.TopTyped" =some 4 by as_aux_lemma=>kernel_rfl).symm.trans hf)|>.symm
   obtain rfl:fn=f4:=(ay (func4.symm.trans hfn)).symm;exact⟨by as_aux_lemma=>kernel_rfl,λj t ht=>by
    have hm:t∈f4.params.toList:=by simpa using Array.mem_of_getElem? ht
    have hall:(f4.params.toList.all λu=> !prog.wantsStandIn u)=true:=by as_aux_lemma=>kernel_rfl
    exact(show prog.wantsStandIn t=false by simpa using bo.1 hall t hm)⟩)
  Wq6
#print axioms topTyped_holds
end Go.Proofs.YtkegldppffignaaGreatDoor
