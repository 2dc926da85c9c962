/- For every input the law TopEcho answers true and leaves every argument as it was; the table of math/bits is what the program's text lays (the card ties it); no other condition. -/
import Derived.Test.YtkegldppffignaaGreatDoorPaa
import Derived.Test.YtkegldppffignaaGreatDoorPab
import Derived.Test.YtkegldppffignaaGreatDoorPac
import Derived.Test.YtkegldppffignaaGreatDoorPba
import Derived.Test.YtkegldppffignaaGreatDoorPbb
import Derived.Test.YtkegldppffignaaGreatDoorRows
import Derived.JoinedOf
import Derived.Test.YtkegldppffignaaGreatDoorCards
import Derived.Test.YtkegldppffignaaGreatDoorTie
import Derived.SevenTiedAt
set_option linter.unusedSimpArgs false
set_option linter.unusedVariables false
set_option maxRecDepth 100000
set_option maxHeartbeats 4000000
namespace Go.Ink
open Go.RowKit
abbrev echoI:List (Int×Int):=[(2,32792),(48,0),(2,0),(25,0),(33,242),(2,32788),(48,0),(2,32784),(49,0),(32,228)]
def Lr:List Int:=[2,24,128,0,0,48,2,0,0,0,0,25,33,242,2,20,128,0,0,48,2,16,128,0,0,49,32,228]++List.replicate 36 0
theorem zk:eG echoI=[2,24,128,0,0,48,2,0,0,0,0,25,33,242,2,20,128,0,0,48,2,16,128,0,0,49,32,228]:=by decide
structure EC where
  ph:Nat
  w:Int
  fl:Int
  c:Nat
  d:Dev
  tu:List Bool
def EC.s(e:EC):St:=
  match e.ph with
  |0=>SS 0 [] e.fl (IntKind.u64.wrap (e.c:Int))
  |1=>SS 5 [32792] e.fl (IntKind.u64.wrap (e.c:Int))
  |2=>SS 6 [e.w] e.fl (IntKind.u64.wrap (e.c:Int))
  |3=>SS 11 [e.w,0] e.fl (IntKind.u64.wrap (e.c:Int))
  |4=>SS 12 [] e.fl (IntKind.u64.wrap (e.c:Int))
  |5=>SS 14 [] e.fl (IntKind.u64.wrap (e.c:Int))
  |6=>SS 19 [32788] e.fl (IntKind.u64.wrap (e.c:Int))
  |7=>SS 20 [e.w] e.fl (IntKind.u64.wrap (e.c:Int))
  |8=>SS 25 [e.w,32784] e.fl (IntKind.u64.wrap (e.c:Int))
  |_=>SS 26 [] e.fl (IntKind.u64.wrap (e.c:Int))
def EC.cfg(e:EC):Cfg:=(e.s,⟨⟨Lr,e.tu⟩,dz⟩,e.d)
def EC.next(e:EC):EC:=
  match e.ph with
  |0=>⟨1,0,e.fl,e.c+1,e.d,jY⟩
  |1=>⟨2,e.d.inp.length,e.fl,e.c+1,e.d,jY⟩
  |2=>⟨3,e.w,e.fl,e.c+1,e.d,jY⟩
  |3=>⟨4,e.w,fe e.w 0,e.c+1,e.d,jY⟩
  |4=>⟨if e.w=0 then 0 else 5,0,e.fl,e.c+1,e.d,jY⟩
  |5=>⟨6,0,e.fl,e.c+1,e.d,jY⟩
  |6=>⟨7,gB e.d.inp 0,e.fl,e.c+1,{e.d with inp:=e.d.inp.tail},jY⟩
  |7=>⟨8,e.w,e.fl,e.c+1,e.d,jY⟩
  |8=>⟨9,0,e.fl,e.c+1,{e.d with out:=e.d.out++[e.w]},jY⟩
  |_=>⟨0,0,e.fl,e.c+1,e.d,jY⟩
structure EC.ok(e:EC):Prop where
  ph:e.ph<=9
  fl:e.fl<=15
  tm:e.d.timer=0
  u8:u8s e.d.inp
  i64:e.d.inp.length<=64
  w1:e.ph=2\/e.ph=3\/e.ph=4->0<=e.w/\e.w<=64/\(e.w≠0->e.d.inp≠[])
  w2:e.ph=4->e.fl=fe e.w 0
  w3:e.ph=5\/e.ph=6->e.d.inp≠[]
  w4:e.ph=7\/e.ph=8->0<=e.w/\e.w<=255
theorem KR:(List.range 65).all (λw:Nat=>(bits .and .u32 (fe (w:Int) 0) 1 !=0)==(w==0))=true:=by decide+kernel
theorem less_z{w:Int}(h0:0<=w)(h1:w<=64):(cY 33 (fe w 0)).1=decide (w=0):=by
  obtain⟨k,rfl⟩:∃k:Nat,w=k:=ar h0;have h:=bo.1 KR k (List.mem_range.2 Wq1);have e:=eq_of_beq h;show(bits .and .u32 (fe (k:Int) 0) 1 !=0)=_;rw[e,Bool.eq_iff_iff];simp
theorem Ek(a b:Int):fe a b<=15:=(lD a b 0 _ _ _).2
section
variable {fl c:Int} (U:Mmu) (dv:Dev)
abbrev D3(n:Nat)(s:St)(op nn:Int)(U:Mmu)(dv:Dev):Res×Mmu×Dev:=(rC s (hH n s op nn ⟨U.m.calm,U.t⟩ dv),(hH n s op nn ⟨U.m.calm,U.t⟩ dv).u,(hH n s op nn ⟨U.m.calm,U.t⟩ dv).d)
theorem ec1:D3 1 (SS 5 [32792] fl c) 48 0 U dv=(⟨SS 6 [(dv.inp.length:Int)] fl (w1 c),false,true,[]⟩,⟨U.m.calm,U.t⟩,dv):=by kernel_rfl
theorem ec6:D3 1 (SS 19 [32788] fl c) 48 0 U dv=(⟨SS 20 [gB dv.inp 0] fl (w1 c),false,true,[]⟩,⟨U.m.calm,U.t⟩,{dv with inp:=dv.inp.tail}):=by kernel_rfl
theorem ec8(ch:Nat):D3 1 (SS 25 [(ch:Int),32784] fl c) 49 0 U dv=(⟨SS 26 [] fl (w1 c),false,true,[]⟩,⟨U.m.calm,U.t⟩,{dv with out:=dv.out++[IntKind.u8.wrap ch]}):=by kernel_rfl
theorem ec3(w:Int):D3 1 (SS 11 [w,0] fl c) 25 0 U dv=(⟨SS 12 [] (fe w 0) (w1 c),false,false,[]⟩,⟨U.m.calm,U.t⟩,dv):=by kernel_rfl
theorem ec9:D3 1 (SS 26 [] fl c) 32 228 U dv=(⟨SS 0 [] fl (w1 c),false,false,[]⟩,⟨U.m.calm,U.t⟩,dv):=by kernel_rfl
theorem ec4a:hH 1 (SS 12 [] fl c) 33 242 ⟨U.m.calm,U.t⟩ dv=⟨bif(cY 33 fl).1 then((eY (SS 12 [] fl c) 33).wpc 0)else eY (SS 12 [] fl c) 33,⟨U.m.calm,U.t⟩,dv⟩:=by kernel_rfl
theorem ec4t(h:(cY 33 fl).1=true):D3 1 (SS 12 [] fl c) 33 242 U dv=(⟨SS 0 [] fl (w1 c),false,false,[]⟩,⟨U.m.calm,U.t⟩,dv):=by
  unfold D3;rw[ec4a,h]
  kernel_rfl
theorem ec4f(h:(cY 33 fl).1=false):D3 1 (SS 12 [] fl c) 33 242 U dv=(⟨SS 14 [] fl (w1 c),false,false,[]⟩,⟨U.m.calm,U.t⟩,dv):=by
  unfold D3;rw[ec4a,h]
  kernel_rfl
end
theorem EC.step{e:EC}(h:e.ok):Step 1 e.cfg e.next.cfg:=by
  obtain⟨ph,w,fl,c,d,tu⟩:=e;obtain⟨h1,h2,h3,h4,h5,h6,h7,h8,h9⟩:=h;dsimp only at h1 h2 h3 h4 h5 h6 h7 h8 h9;have hw:=oQ c;have hdo:∀(s s':St) (op nn:Int) (U:Mmu) (dv dv':Dev) (b:Bool),s.right=true->eH s op nn=0->D3 1 s op nn U dv=(⟨s',false,b,[]⟩,⟨U.m.calm,U.t⟩,dv')->mq 1 s op nn U dv=(⟨s',false,b,[]⟩,⟨U.m.calm,U.t⟩,dv'):=λs s' op nn U dv dv' b q1 q2 q3=>by
    rw[Et q1 q2];exact q3
  obtain rfl|rfl|rfl|rfl|rfl|rfl|rfl|rfl|rfl|rfl:ph=0\/ph=1\/ph=2\/ph=3\/ph=4\/ph=5\/ph=6\/ph=7\/ph=8\/ph=9:=by omega
  . exact⟨dQ cE h2,rfl,rfl,h3,(show(0:Int)<=0 by decide),2,32792,5,_,(by kernel_rfl),sE 1 (pc:=0) (v:=32792) (d:=[]) _ _ cE h2,by rw[hw];rfl,λ_=>rfl⟩
  . exact⟨dQ cE h2,rfl,rfl,h3,(show(0:Int)<=5 by decide),48,0,1,_,(by kernel_rfl),hdo _ _ _ _ _ _ _ _ (dQ cE h2) (by kernel_rfl) (ec1 _ _),by rw[hw];rfl,λ_=>rfl⟩
  . exact⟨dQ cE h2,rfl,rfl,h3,(show(0:Int)<=6 by decide),2,0,5,_,(by kernel_rfl),sE 1 (pc:=6) (v:=0) (d:=[w]) _ _ cE h2,by rw[hw];rfl,λ_=>rfl⟩
  . exact⟨dQ cE h2,rfl,rfl,h3,(show(0:Int)<=11 by decide),25,0,1,_,(by kernel_rfl),hdo _ _ _ _ _ _ _ _ (dQ cE h2) (by kernel_rfl) (ec3 _ _ w),by rw[hw];rfl,λ_=>rfl⟩
  . obtain⟨a1,a2, -⟩:=h6 (.inr (.inr rfl))
    have hz:=less_z a1 a2;have hfl:=h7 rfl;subst hfl;by_cases e0:w=0
    . rw[ax e0]at hz
      refine⟨dQ cE h2,rfl,rfl,h3,(show(0:Int)<=12 by decide),33,242,2,(⟨SS 0 [] (fe w 0) (w1 (IntKind.u64.wrap (c:Int))),false,false,[]⟩:Res),(by kernel_rfl),hdo _ _ _ _ _ _ _ _ (dQ cE h2) (by kernel_rfl) (ec4t _ _ hz),?_,λq=>by cases q⟩;show SS 0 [] _ _=EC.s ⟨if w=0 then 0 else 5,0,fe w 0,c+1,d,jY⟩;rw[if_pos e0,hw]
      rfl
    rw[aw e0]at hz;refine⟨dQ cE h2,rfl,rfl,h3,(show(0:Int)<=12 by decide),33,242,2,(⟨SS 14 [] (fe w 0) (w1 (IntKind.u64.wrap (c:Int))),false,false,[]⟩:Res),(by kernel_rfl),hdo _ _ _ _ _ _ _ _ (dQ cE h2) (by kernel_rfl) (ec4f _ _ hz),?_,λq=>by cases q⟩;show SS 14 [] _ _=EC.s ⟨if w=0 then 0 else 5,0,fe w 0,c+1,d,jY⟩;rw[if_neg e0,hw]
    rfl
  . exact⟨dQ cE h2,rfl,rfl,h3,(show(0:Int)<=14 by decide),2,32788,5,_,(by kernel_rfl),sE 1 (pc:=14) (v:=32788) (d:=[]) _ _ cE h2,by rw[hw];rfl,λ_=>rfl⟩
  . exact⟨dQ cE h2,rfl,rfl,h3,(show(0:Int)<=19 by decide),48,0,1,_,(by kernel_rfl),hdo _ _ _ _ _ _ _ _ (dQ cE h2) (by kernel_rfl) (ec6 _ _),by rw[hw];rfl,λ_=>rfl⟩
  . exact⟨dQ cE h2,rfl,rfl,h3,(show(0:Int)<=20 by decide),2,32784,5,_,(by kernel_rfl),sE 1 (pc:=20) (v:=32784) (d:=[w]) _ _ cE h2,by rw[hw];rfl,λ_=>rfl⟩
  . obtain⟨a1,a2⟩:=h9 (.inr rfl)
    obtain⟨ch,rfl⟩:∃ch:Nat,w=ch:=ar a1;have e8:=ec8 (fl:=fl) (c:=IntKind.u64.wrap (c:Int)) ⟨⟨Lr,tu⟩,dz⟩ d ch;rw[show IntKind.u8.wrap (ch:Int)=(ch:Int) by rw[rG];omega]at e8;exact⟨dQ cE h2,rfl,rfl,h3,(show(0:Int)<=25 by decide),49,0,1,_,(by kernel_rfl),hdo _ _ _ _ _ _ _ _ (dQ cE h2) (by kernel_rfl) e8,by rw[hw];rfl,λ_=>rfl⟩
  exact⟨dQ cE h2,rfl,rfl,h3,(show(0:Int)<=26 by decide),32,228,2,_,(by kernel_rfl),hdo _ _ _ _ _ _ _ _ (dQ cE h2) (by kernel_rfl) (ec9 _ _),by rw[hw];rfl,λq=>by cases q⟩
theorem EC.ok.next{e:EC}(h:e.ok):e.next.ok:=by
  obtain⟨ph,w,fl,c,d,tu⟩:=e;obtain⟨h1,h2,h3,h4,h5,h6,h7,h8,h9⟩:=h;dsimp only at h1 h2 h3 h4 h5 h6 h7 h8 h9;obtain rfl|rfl|rfl|rfl|rfl|rfl|rfl|rfl|rfl|rfl:ph=0\/ph=1\/ph=2\/ph=3\/ph=4\/ph=5\/ph=6\/ph=7\/ph=8\/ph=9:=by omega
  . exact⟨by simp[EC.next],h2,h3,h4,h5,by simp[EC.next],by simp[EC.next],by simp[EC.next],by simp[EC.next]⟩
  . refine⟨by simp[EC.next],h2,h3,h4,h5,λ_=>⟨Int.natCast_nonneg _,by show(d.inp.length:Int)<=64;omega,λq e=>q ?_⟩,by simp[EC.next],by simp[EC.next],by simp[EC.next]⟩
    show(d.inp.length:Int)=0;rw[show d.inp=[]from e];rfl
  . exact⟨by simp[EC.next],h2,h3,h4,h5,λ_=>h6 (.inl rfl),by simp[EC.next],by simp[EC.next],by simp[EC.next]⟩
  . exact⟨by simp[EC.next],Ek w 0,h3,h4,h5,λ_=>h6 (.inr (.inl rfl)),λ_=>rfl,by simp[EC.next],by simp[EC.next]⟩
  . obtain⟨a1,a2,a3⟩:=h6 (.inr (.inr rfl))
    by_cases e0:w=0
    . refine⟨?_,h2,h3,h4,h5,?_,?_,?_,?_⟩<;>simp[EC.next,e0]
    refine⟨?_,h2,h3,h4,h5,?_,?_,?_,?_⟩
    . simp[EC.next,e0]
    . simp[EC.next,e0]
    . simp[EC.next,e0]
    . intro _;exact a3 e0
    simp[EC.next,e0]
  . exact⟨by simp[EC.next],h2,h3,h4,h5,by simp[EC.next],by simp[EC.next],λ_=>h8 (.inl rfl),by simp[EC.next]⟩
  . refine⟨by simp[EC.next],h2,h3,λx hx=>h4 x (List.mem_of_mem_tail hx),?_,by simp[EC.next],by simp[EC.next],by simp[EC.next],λ_=>ji h4 0⟩
    show d.inp.tail.length<=64;rw[List.length_tail];omega
  . exact⟨by simp[EC.next],h2,h3,h4,h5,by simp[EC.next],by simp[EC.next],by simp[EC.next],λ_=>h9 (.inl rfl)⟩
  . exact⟨by simp[EC.next],h2,h3,h4,h5,by simp[EC.next],by simp[EC.next],by simp[EC.next],by simp[EC.next]⟩
  exact⟨by simp[EC.next],h2,h3,h4,h5,by simp[EC.next],by simp[EC.next],by simp[EC.next],by simp[EC.next]⟩
def EC.mu(e:EC):Nat:=
  match e.ph with
  |0=>10*e.d.inp.length
  |1=>if e.d.inp.length=0 then 0 else 9+10*(e.d.inp.length - 1)
  |2=>if e.w=0 then(if e.d.inp.length=0 then 0 else 3+10*e.d.inp.length)else 8+10*(e.d.inp.length - 1)
  |3=>if e.w=0 then(if e.d.inp.length=0 then 0 else 2+10*e.d.inp.length)else 7+10*(e.d.inp.length - 1)
  |4=>if e.w=0 then(if e.d.inp.length=0 then 0 else 1+10*e.d.inp.length)else 6+10*(e.d.inp.length - 1)
  |5=>5+10*(e.d.inp.length - 1)
  |6=>4+10*(e.d.inp.length - 1)
  |7=>3+10*e.d.inp.length
  |8=>2+10*e.d.inp.length
  |_=>1+10*e.d.inp.length
def EC.all(e:EC):List Int:=e.d.out++((if e.ph=7\/e.ph=8 then[e.w]else[])++e.d.inp)
theorem EC.Nw{e:EC}(h:e.ok):e.next.mu=e.mu - 1/\e.next.all=e.all:=by
  obtain⟨ph,w,fl,c,d,tu⟩:=e;obtain⟨h1,h2,h3,h4,h5,h6,h7,h8,h9⟩:=h;dsimp only at h1 h2 h3 h4 h5 h6 h7 h8 h9;have hne:∀{l:List Int},l≠[]->l.length≠0:=λq r=>q (List.eq_nil_of_length_eq_zero r)
  obtain rfl|rfl|rfl|rfl|rfl|rfl|rfl|rfl|rfl|rfl:ph=0\/ph=1\/ph=2\/ph=3\/ph=4\/ph=5\/ph=6\/ph=7\/ph=8\/ph=9:=by omega
  . refine⟨?_,by simp[EC.all,EC.next]⟩
    show(if d.inp.length=0 then 0 else 9+10*(d.inp.length - 1))=10*d.inp.length - 1;split<;>omega
  . refine⟨?_,by simp[EC.all,EC.next]⟩
    show(if(d.inp.length:Int)=0 then(if d.inp.length=0 then 0 else 3+10*d.inp.length)else 8+10*(d.inp.length - 1))=(if d.inp.length=0 then 0 else 9+10*(d.inp.length - 1)) - 1;by_cases q:d.inp.length=0
    . rw[q];rfl
    rw[if_neg (show¬(d.inp.length:Int)=0 by omega),if_neg q];omega
  . refine⟨?_,by simp[EC.all,EC.next]⟩
    obtain⟨a1,a2,a3⟩:=h6 (.inl rfl);show(if w=0 then(if d.inp.length=0 then 0 else 2+10*d.inp.length)else 7+10*(d.inp.length - 1))=(if w=0 then(if d.inp.length=0 then 0 else 3+10*d.inp.length)else 8+10*(d.inp.length - 1)) - 1;split
    . split<;>omega
    omega
  . refine⟨?_,by simp[EC.all,EC.next]⟩
    show(if w=0 then(if d.inp.length=0 then 0 else 1+10*d.inp.length)else 6+10*(d.inp.length - 1))=(if w=0 then(if d.inp.length=0 then 0 else 2+10*d.inp.length)else 7+10*(d.inp.length - 1)) - 1;split
    . split<;>omega
    omega
  . by_cases q:w=0
    . refine⟨?_,by simp[EC.all,EC.next,q]⟩
      show EC.mu ⟨if w=0 then 0 else 5,0,fl,c+1,d,jY⟩=(if w=0 then(if d.inp.length=0 then 0 else 1+10*d.inp.length)else 6+10*(d.inp.length - 1)) - 1;rw[if_pos q,if_pos q];show 10*d.inp.length=_;split<;>omega
    refine⟨?_,by simp[EC.all,EC.next,q]⟩;show EC.mu ⟨if w=0 then 0 else 5,0,fl,c+1,d,jY⟩=(if w=0 then(if d.inp.length=0 then 0 else 1+10*d.inp.length)else 6+10*(d.inp.length - 1)) - 1;rw[if_neg q,if_neg q];show 5+10*(d.inp.length - 1)=_;omega
  . refine⟨?_,by simp[EC.all,EC.next]⟩
    show 4+10*(d.inp.length - 1)=5+10*(d.inp.length - 1) - 1;omega
  . have q:=h8 (.inr rfl)
    refine⟨?_,?_⟩
    . show 3+10*d.inp.tail.length=4+10*(d.inp.length - 1) - 1
      rw[List.length_tail];omega
    match hi:d.inp,q with
    |x::xs,_=>
      simp[EC.all,EC.next,hi,gB]
  . refine⟨?_,by simp[EC.all,EC.next]⟩
    show 2+10*d.inp.length=3+10*d.inp.length - 1;omega
  . refine⟨?_,by simp[EC.all,EC.next]⟩
    show 1+10*d.inp.length=2+10*d.inp.length - 1;omega
  refine⟨?_,by simp[EC.all,EC.next]⟩;show 10*d.inp.length=1+10*d.inp.length - 1;omega
theorem EC.NP{e:EC}(h:e.ok)(hm:e.mu=0):e.d.inp=[]/\e.d.out=e.all:=by
  obtain⟨ph,w,fl,c,d,tu⟩:=e;obtain⟨h1,h2,h3,h4,h5,h6,h7,h8,h9⟩:=h;dsimp only at h1 h2 h3 h4 h5 h6 h7 h8 h9;have key:d.inp.length=0/\¬(ph=7\/ph=8):=by
    obtain rfl|rfl|rfl|rfl|rfl|rfl|rfl|rfl|rfl|rfl:ph=0\/ph=1\/ph=2\/ph=3\/ph=4\/ph=5\/ph=6\/ph=7\/ph=8\/ph=9:=by omega
    all_goals
      simp only[EC.mu]at hm;refine⟨?_,by omega⟩
      first
        |omega
        |(split at hm<;>omega)
        |(split at hm<;>first|omega|(split at hm<;>omega))
  have e0:d.inp=[]:=List.eq_nil_of_length_eq_zero key.1;refine⟨e0,?_⟩;show d.out=d.out++((if ph=7\/ph=8 then[w]else[])++d.inp);rw[if_neg key.2,e0];simp
def EC.it(e:EC):Nat->EC
  |0=>e
  |i+1=>(e.it i).next
theorem EC.Nx{e:EC}(h:e.ok):∀i,(e.it i).ok/\(e.it i).mu=e.mu - i/\(e.it i).all=e.all/\(e.it i).c=e.c+i
  |0=>⟨h,rfl,rfl,rfl⟩
  |i+1=>by
    obtain⟨h1,h2,h3,h4⟩:=EC.Nx h i;obtain⟨m1,m2⟩:=EC.Nw h1
    have hcn:(e.it i).next.c=(e.it i).c+1:=by unfold EC.next;split<;>rfl
    exact⟨h1.next,by show(e.it i).next.mu=_;rw[m1,h2];omega,by show(e.it i).next.all=_;rw[m2,h3],by show(e.it i).next.c=_;rw[hcn,h4];omega⟩
theorem EC.Nr(e:EC):e.s.halted=false/\e.s.count=IntKind.u64.wrap (e.c:Int):=by
  unfold EC.s;split<;>exact⟨rfl,rfl⟩
theorem Lq{e:EC}(h:e.ok){m:Nat}(hm:e.mu<=m)(hm2:m<=1000000):∃e':EC,e'.ok/\e'.mu=0/\e'.d.inp=[]/\e'.d.out=e.all/\e'.s.halted=false/\eW 1 (m:Int) e.cfg.1 e.cfg.2.1 e.cfg.2.2=e'.cfg:=by
  obtain⟨j, -,h2, -,h4, -⟩:=sM (n:=1) (T:=λi=>(e.it i).cfg) (c0:=e.c) (λi _=>EC.step (EC.Nx h i).1) (λi _=>by
    show(e.it i).s.count=_;rw[(EC.Nr _).2,(EC.Nx h i).2.2.2]) (m:=(m:Int)) Wq1 (a:=0) (λl hl=>by omega)
  have h5:m<=j:=by
    rcases h4 with h4|h4
    . have h6:(e.it j).s.halted=true:=h4
      rw[(EC.Nr _).1]at h6;cases h6
    omega
  obtain⟨k1,k2,k3, -⟩:=EC.Nx h j;obtain⟨z1,z2⟩:=EC.NP k1 Wq1;exact⟨e.it j,k1,by omega,z1,z2.trans k3,(EC.Nr _).1,h2⟩
theorem Ep{e:EC}(h:e.ok)(h0:e.d.inp=[])(hm:e.mu=0){d':Dev}(hl:u8s d'.inp)(h64:d'.inp.length<=64)(ht:d'.timer=0):EC.ok ⟨e.ph,e.w,e.fl,e.c,d',e.tu⟩/\EC.mu ⟨e.ph,e.w,e.fl,e.c,d',e.tu⟩<=3+10*d'.inp.length/\EC.all ⟨e.ph,e.w,e.fl,e.c,d',e.tu⟩=d'.out++d'.inp:=by
  obtain⟨ph,w,fl,c,d,tu⟩:=e;obtain⟨h1,h2,h3,h4,h5,h6,h7,h8,h9⟩:=h;dsimp only at h0 h1 h2 h3 h4 h5 h6 h7 h8 h9|-;have h4':ph<=4:=by
    obtain rfl|rfl|rfl|rfl|rfl|rfl|rfl|rfl|rfl|rfl:ph=0\/ph=1\/ph=2\/ph=3\/ph=4\/ph=5\/ph=6\/ph=7\/ph=8\/ph=9:=by omega
    any_goals omega
    . exact absurd h0 (h8 (.inl rfl))
    . exact absurd h0 (h8 (.inr rfl))
    all_goals
      simp only[EC.mu]at hm;omega
  have hw:ph=2\/ph=3\/ph=4->w=0:=λq=>Classical.byContradiction λr=>(h6 q).2.2 r h0
  refine⟨⟨h1,h2,ht,hl,h64,λq=>⟨(h6 q).1,(h6 q).2.1,λr=>absurd (hw q) r⟩,h7,λq=>by rcases q with rfl|rfl<;>omega,λq=>by rcases q with rfl|rfl<;>omega⟩,?_,?_⟩
  . obtain rfl|rfl|rfl|rfl|rfl:ph=0\/ph=1\/ph=2\/ph=3\/ph=4:=by omega
    . show 10*d'.inp.length<=_;omega
    . show(if d'.inp.length=0 then 0 else 9+10*(d'.inp.length - 1))<=_
      split<;>omega
    . show(if w=0 then(if d'.inp.length=0 then 0 else 3+10*d'.inp.length)else 8+10*(d'.inp.length - 1))<=_
      rw[if_pos (hw (.inl rfl))];split<;>omega
    . show(if w=0 then(if d'.inp.length=0 then 0 else 2+10*d'.inp.length)else 7+10*(d'.inp.length - 1))<=_
      rw[if_pos (hw (.inr (.inl rfl)))];split<;>omega
    show(if w=0 then(if d'.inp.length=0 then 0 else 1+10*d'.inp.length)else 6+10*(d'.inp.length - 1))<=_;rw[if_pos (hw (.inr (.inr rfl)))];split<;>omega
  show d'.out++((if ph=7\/ph=8 then[w]else[])++d'.inp)=_;rw[if_neg Wq1,aO]
theorem rd_mid{w:World}{A:Option Addr}{c:Nat}{xs:List Int}(h:Rd w .u8 A xs.length c xs){lo hi:Nat}(h1:lo<=hi)(h2:hi<=xs.length):Rd w .u8 (if c=lo then A else A.map (·.add (lo*1))) (hi - lo) (c - lo) ((xs.take hi).drop lo):=by
 have h5:=RdV.cut h (lo:=lo) (hi:=hi) h1 h2;rw[Nat.mul_one]at h5;simp only[Nat.mul_one]at h5|-;have e2:((ints .u8 xs).take hi).drop lo=ints .u8 ((xs.take hi).drop lo):=by simp[ints]
 rw[e2]at h5;exact h5
theorem JK{l:List Int}{k n:Nat}:l.take k++(l.take (min (k+n) l.length)).drop k=l.take (k+n):=by
 have e:l.take (min (k+n) l.length)=l.take (k+n):=List.take_eq_take_iff.2 Wq1;have h:=List.take_append_drop k (l.take (k+n));rw[List.take_take,Nat.min_eq_left Wq1]at h;rw[e];exact h
def uo(out:List Int)(q:Cfg):Prop:=∃e:EC,e.ok/\e.mu=0/\e.d.inp=[]/\e.d.out=out/\e.s.halted=false/\e.cfg=q
theorem Eo{U:Mmu}(hU:U.m.data=Lr)(ht:U.t=dz):uo [] (St.new,U,Dev.init []):=by
 obtain⟨⟨data,tu⟩,t⟩:=U;dsimp only at hU ht;subst hU ht;exact⟨⟨0,0,0,0,Dev.init [],tu⟩,⟨aq _,(show(0:Int)<=15 by decide),rfl,(λx hx=>by cases hx),aq _,(λh=>by dsimp only at h;omega),(λh=>by dsimp only at h;omega),(λh=>by dsimp only at h;omega),(λh=>by dsimp only at h;omega)⟩,rfl,rfl,rfl,rfl,rfl⟩
theorem Iz{out l:List Int}{s:St}{U:Mmu}{d:Dev}(h:uo out (s,U,d))(hl:u8s l){n:Nat}(hn:l.length<=n)(hn1:1<=n)(hn2:n<=21):
  d.inp=[]/\d.Nd l=l.length/\s.halted=false/\uo (out++l) (eW 1 ((30*n:Nat):Int) s U (d.M7 l)):=by
 obtain⟨e,h1,h2,h3,h4,h5,h6⟩:=h;obtain⟨rfl,rfl,rfl⟩:e.s=s/\(⟨⟨Lr,e.tu⟩,dz⟩:Mmu)=U/\e.d=d:=by
  have:=bJ h6;exact⟨this.1,(bJ this.2).1,(bJ this.2).2⟩
 have hN:e.d.Nd l=l.length:=by unfold Dev.Nd;rw[h3];simp;omega
 have hi:(e.d.M7 l).inp=l:=by
  show e.d.inp++l.take (e.d.Nd l)=l;rw[hN,h3,bn];rfl
 have ho:(e.d.M7 l).out=out:=h4;obtain⟨k1,k2,k3⟩:=Ep h1 h3 h2 (d':=e.d.M7 l) (by rw[hi];exact hl) (by rw[hi];omega) h1.tm;rw[hi]at k2 k3;rw[ho]at k3;obtain⟨e',m1,m2,m3,m4,m5,m6⟩:=Lq k1 (m:=30*n) Wq1 Wq1;exact⟨h3,hN,h5,e',m1,m2,m3,m4.trans k3,m5,m6.symm⟩
theorem uo.st{out:List Int}{s:St}{U:Mmu}{d:Dev}(h:uo out (s,U,d)):d.inp=[]/\d.out=out/\s.halted=false:=by
 obtain⟨e, -, -,h3,h4,h5,h6⟩:=h;have:=bJ h6;rw[<-this.1,<-(bJ this.2).2];exact⟨h3,h4,h5⟩
end Go.Ink
namespace Go.Proofs.YtkegldppffignaaGreatDoor
open Go.RowKit Go.Ink Go.Proofs.Tryz
attribute [local irreducible] OpY bS
theorem Dt(A:Option Addr)(c:Nat)(b0:List Int)(hb0:u8s b0)(by_:Int)(w:World)(h0:Rd w .u8 A b0.length c b0)(ht:iG w):
  Ctr prog 3 [.slice A b0.length c,.int .i64 by_] w [] (λv cs=>v= .bool true/\cs=[]):=by
 have HK:=λw=>tW A c b0 120 w h0.cap
 have h:Rd w .u8 A (b0.take 120).length c (b0.take 120):=jo h0 120;have hb:u8s (b0.take 120):=λx hx=>hb0 x (bj hx)
 have hbl:(b0.take 120).length<=120:=by rw[aB];omega
 obtain⟨b,hbb⟩:=Zgn (b0.take 120);rw[hbb]at h hb hbl HK;have hcap:=h.cap;obtain⟨m,hm⟩:=Zgn (kM by_ 0 20);have hmr:=ke by_ 0 20 Wq5;rw[hm]at hmr;have HW:=λw=>hm▸kr by_ 0 20 w Wq5 Wq5 Wq5
 obtain⟨n,hn⟩:∃n:Nat,1+m=(n:Int):=ar Wq1;have hc8:u8s [2,24,128,0,0,48,2,0,0,0,0,25,33,242,2,20,128,0,0,48,2,16,128,0,0,49,32,228]:=by rw[<-zk];exact nk _ _
 have HC:=λA c w h=>o3 A c echoI (show(10:Nat)<=1000 by decide) w h
 rw[zk]at HC;have HN:=λA c w hA=>lw 1 Wq5 Wq5 A none c 0 [2,24,128,0,0,48,2,0,0,0,0,25,33,242,2,20,128,0,0,48,2,16,128,0,0,49,32,228] [] Wq5 hc8 Wq5 (λx hx=>by cases hx) true w hA (wV w .u8)
 have hE0:=Eo (U:=⟨Mem.load 1 [2,24,128,0,0,48,2,0,0,0,0,25,33,242,2,20,128,0,0,48,2,16,128,0,0,49,32,228],dz⟩) (Mem.Nt Wq5) rfl;obtain⟨l0,hl0⟩:∃l:List Int,[2,24,128,0,0,48,2,0,0,0,0,25,33,242,2,20,128,0,0,48,2,16,128,0,0,49,32,228]=l:=⟨_,rfl⟩;rw[hl0]at HC HN hE0;have HG:∀(H:rp) (G:Gst) (B0 W0 P0:List Int),Jg H.L.bp 0 1 B0 W0 P0 l0 [] true H G->H.L.n=1/\G.ok 1/\uo [] (G.s,G.U,G.d):=λH G B0 W0 P0 h=>⟨h.hn,h.ok,by rw[h.hs,h.hu,h.hd];exact hE0⟩
 refine bN func3 rfl ntmps3 rfl (Inv.start w) ?_;refine Z_8 ?_;refine ZSe (λw hi=>HK w) ?_;refine Z_5 ?_;refine ZSe (λw hi=>gC _ w) ?_;refine ZSe (λw hi=>jG _ w) ?_;refine ZSe (λw hi=>gC _ w) ?_;refine ZSe (λw hi=>jG _ w) ?_;refine ZSe (λw hi=>j6 _ _ w) ?_;refine ZSe (λw hi=>gC _ w) ?_;refine ZSe (λw hi=>jG _ w) ?_;refine ZSe (λw hi=>gC _ w) ?_;refine ZSe (λw hi=>jG _ w) ?_;refine ZSe (λw hi=>j6 _ _ w) ?_;refine ro ?_;rintro _ _ ⟨b22,rfl,rfl⟩;refine ZS (λw hi=>HC (some ⟨b22,0,none⟩) 10 w (hi.rd (show Has _ (slv 27 2 (some ⟨b22,0,none⟩) 10 10 (echoI.flatMap dR))from Zh))) ?_;rintro _ _ ⟨_,⟨A1,c1,rfl,rfl⟩,rfl⟩;refine Z_7 ?_;refine ZS (λw hi=>HN A1 c1 w (hi.rd (show Has _ (sl .u8 5 A1 l0.length c1 l0)from Zh))) ?_;rintro _ _ ⟨_,⟨H,G,hBo,rfl,rfl⟩,rfl⟩;obtain⟨hn1,hG,hE⟩:=HG H G _ _ _ hBo;clear hBo;refine dS ?_;refine fS ?_;refine Z_5 ?_;refine ZSe (λw hi=>HW w) ?_;refine Zy (df (Zv rfl) (Zv rfl) (show _=(n:Int)from by rw[bF _ ⟨by omega,by omega⟩];exact hn)) ?_;refine Z_6 ?_;refine iT (gsF H G) Zj ?_;refine Z_4 ?_;refine cq (λq:Nat×Gst=>[(0,.slice A b.length c),(6,.pointer (some ⟨H.bg,0,none⟩)),(7,.int .i64 (n:Int)),(8,.int .i64 (q.1:Int))]) (λq=>gsF H q.2) (λq=>q.2.ok 1/\uo (b.take q.1) (q.2.s,q.2.U,q.2.d)/\q.1<=141) (λq=>200 - q.1) ((⟨0,G⟩:Nat×Gst)) ?_ ?_ ?_ ?_
 .exact⟨hG,hE,aq _⟩
 .exact Zwk
 .exact Zu
 rintro⟨k,⟨s,X,Y,U,d,o⟩⟩ ⟨hG,hE,hk⟩;dsimp only at hG hE hk|-;obtain⟨hi0,hout,hha⟩:=hE.st;have hg:=hG.g;dsimp only at hg;obtain⟨hd16,hr16, -⟩:=St.fits hg.right;refine Z_9 ?_;refine ZW ?_ ?_<;>intro hc8
 .simp only[aj]at hc8;obtain⟨z,hz⟩:=Zgn (min (k+n) b.length);have hll:((b.take z).drop k).length=z - k:=(by rw[bI,aB];omega);have hlu:u8s ((b.take z).drop k):=(λx hx=>hb x (bj (List.mem_of_mem_drop hx)));have hrm:=rd_mid h (lo:=k) (hi:=z) Wq1 Wq1;have htk:b.take k++(b.take z).drop k=b.take (k+n):=(by rw[<-hz];exact JK);obtain⟨-,m2, -,m4⟩:=Iz hE hlu (n:=n) Wq1 Wq1 Wq1;obtain⟨g3, -⟩:=oX hg ⟨by rw[hi0];exact aq _⟩ hlu;have HI:=λw hi h=>pQ H ⟨s,X,Y,U,d,o⟩ (by dsimp only;rw[hi0];exact aq _) (if c=k then A else A.map (·.add (k*1))) (c - k) ((b.take z).drop k) Wq1 w hi h
  dsimp only at HI;rw[m2,hll]at HI;have ho2:(d.M7 ((b.take z).drop k)).out.length<=120:=(by show d.out.length<=120;rw[hout,aB];omega);obtain⟨d2,hd2⟩:=Zgn (d.M7 ((b.take z).drop k));rw[hd2]at HI m4 g3 ho2;rw[htk]at m4;have HR:=λY w hi ht=>lf H ⟨s,X,Y,U,d2,o⟩ Wq1 (hn1.symm▸(⟨g3,hG.e⟩:Gst.ok 1 ⟨s,X,Y,U,d2,o⟩)) ((30*n:Nat):Int) Wq1 Wq1 (by dsimp only;omega) w hi ht
  rw[hn1]at HR;dsimp only at HR;refine Z_8 ?_;refine Zy (df (Zv rfl) (Zv rfl) (show _=((k+n:Nat):Int)from by rw[bF _ ⟨by omega,by omega⟩];omega)) ?_;refine Z_3 ?_;refine da (λq:Nat=>[(0,.slice A b.length c),(6,.pointer (some ⟨H.bg,0,none⟩)),(7,.int .i64 (n:Int)),(8,.int .i64 (k:Int)),(9,.int .i64 (q:Int))]) (λq=>gsF H ⟨s,X,Y,U,d,o⟩) (λq=>q=z) ?_ ?_
  .refine Z_8 ?_;refine ZW ?_ ?_<;>intro hc11
   .refine Z_5 ?_;refine bX (b.length) ?_ ?_ ?_
    .exact(by have:=hc11;simp only[aj]at this;show b.length=z;omega)
    .exact Zwk
    exact Zj
   refine Zc ?_;refine bX (k+n) ?_ ?_ ?_
   .exact(by have:=hc11;simp only[ah]at this;show k+n=z;omega)
   .exact Zwk
   exact Zj
  rintro e he;obtain rfl:z=e:=he.symm;refine Z_7 ?_;refine Zy (sc (lo:=k) (hi:=z) rfl Zrf (Zv rfl) (.inr ⟨_,_,rfl,(Zv rfl)⟩) (.inr ⟨_,_,rfl,(Zv rfl)⟩) Wq1 Wq1) ?_;refine ZcL (gsF H ⟨s,X,Y,U,d,o⟩) (λw hi hin=>HI w hin (λw' hk=>RdV.M6 hrm hi Zi hk)) ?_;rintro _ _ ⟨_,⟨Y2,rfl,rfl⟩,rfl⟩;refine Z_2 ?_;refine Zy (eE (Zv rfl) (Zv rfl) (show _=((z - k:Nat):Int)from by rw[bF _ ⟨by omega,by omega⟩];omega)) ?_;refine Z_3 ?_;refine dc rfl (cE) ?_;refine Z_5 ?_;refine Zy (jk (Zv rfl) (Zv rfl) (show _=((30*n:Nat):Int)from by rw[bF _ ⟨by omega,by omega⟩];omega)) ?_;refine ZcL (gsF H ⟨s,X,Y2,U,d2,o⟩) (λw hi hin=>HR Y2 w hin (λw' hk=>RdV.M6 ht hi Zi hk)) ?_;rintro _ _ ⟨_,⟨G3,⟨hG3,hr3, -⟩,rfl,rfl⟩,rfl⟩;rw[<-hr3]at m4;refine Z_6 ?_;refine Zy (df (Zv rfl) (Zv rfl) (show _=((k+n:Nat):Int)from by rw[bF _ ⟨by omega,by omega⟩];omega)) ?_;refine Z_2 ?_;refine bX ((⟨k+n,G3⟩:Nat×Gst)) ?_ ?_ ?_
  .exact⟨⟨hG3,m4,show k+n<=141 by omega⟩,show 200 - (k+n)<200 - k by omega⟩
  .exact Zwk
  exact Zj
 simp only[ah]at hc8;rw[List.take_of_length_le Wq1]at hout;refine Z_6 ?_;refine bU ⟨λj=>List.elem j [],[]⟩ Zk ?_;refine gO ?_;refine ZFe 2 0 ?_;refine ZG 3 ?_;refine ZE 4 ?_;refine ZFe 5 2 ?_;refine ZG 6 ?_;refine ZE 9 ?_;refine we (λw hi=>jf (h.MZ hi)) (λhrd72=>?_);refine dD 10 rfl Zk Zk Zk Zk (je rfl rfl rfl Zv0 hrd72) (λw hi=>RdV.M8 (h.MZ hi)) rfl ?_;refine cn 7 Zk ?_;refine ZT (λw hi=>nj H.D.bcn Y.Ao Y.co d.out Y.Ai d.inp.length Y.ci (by rw[hout];omega) w (hi.get Zh) (hi.get Zh)) ?_;rintro _ _ ⟨_,⟨A5,c5,rfl,rfl⟩,rfl⟩;refine we (λw hi=>jf (hi.rd (show Has _ (b8 A5 c5 d.out)from Zh))) (λhrd70=>?_);refine dD 8 rfl Zk Zk Zk Zk (je rfl rfl rfl (Zv rfl) hrd70) (λw hi=>RdV.M8 (hi.rd (show Has _ (b8 A5 c5 d.out)from Zh))) rfl ?_;refine cG 11 rfl Zk Zk Zk (my rfl (Zv rfl) (Zv rfl) (show _=true from(kQ (hout.symm▸hb) hb).trans (by rw[hout];exact beq_self_eq_true _))) rfl ?_;refine ZE 12 ?_;refine ZF 13 ?_;refine ZF 14 ?_;refine ZFf 15 0 ?_;refine qO 16 rfl Zk Zk Zk Zk (bR rfl rfl) (bQ Zrf (dh rfl)) (cu Zh rfl) rfl ?_;refine ZF 17 ?_;refine ZFf 18 2 ?_;refine qO 19 rfl Zk Zk Zk Zk (bR rfl rfl) (bQ Zrf (dh rfl)) (cu Zh rfl) rfl ?_;refine cn 20 Zk ?_;refine sj rfl rfl (bR rfl rfl) rfl (cU rfl (λ_ _=>rfl) (λw hi=>pX H.D.bcn Y.Ao d.out.length Y.co Y.Ai d.inp.length Y.ci w (hi.get Zh))) ZJ rfl ?_;rintro _ _ ⟨_,⟨rfl,rfl⟩,rfl⟩;refine Df 21 rfl Zk Zk Zk (bR rfl rfl) (jc (dh rfl) (Zv rfl) (show _=true from by rw[hi0];rfl)) rfl ?_;refine ZE 22 ?_;refine ZE 23 ?_;refine ZF 24 ?_;refine cn 25 Zk ?_;refine sj rfl rfl (bR rfl rfl) rfl (cU rfl (λ_ _=>rfl) (λw hi=>i5 H ⟨s,X,Y,U,d,o⟩ w (hi.get Zh) (hi.NM (show Has _ (slD s X.Ad X.cd)from Zh) (show Has _ (slR s X.Ar X.cr)from Zh) (by show s.d.length*4<=_;omega) (by show s.r.length*4<=_;omega)))) ZJ rfl ?_;rintro _ _ ⟨_,⟨A3,c3,A4,c4,rfl,rfl⟩,rfl⟩;refine Df 26 rfl Zk Zk Zk (bR rfl rfl) (lM rfl rfl Zrf (dh rfl) (congrArg (λb=>some (Value.bool b)) hha)) rfl ?_;refine ZF 27 ?_;refine ZE 28 ?_;refine ZE 29 ?_;refine cn 30 Zk ?_;refine sj rfl rfl (bR rfl rfl) rfl (cU rfl (λ_ _=>rfl) (λw hi=>p5 w (ht.old hi))) ZJ rfl ?_;rintro _ _ ⟨_,⟨rfl,rfl⟩,rfl⟩;refine ZE 31 ?_;refine ZE 32 ?_;refine dx ?_;refine Z_2 ?_;refine Zra ?_;exact de
open Go
set_option maxRecDepth 100000 in
set_option maxHeartbeats 0 in
theorem wC:joinedFacts checked.prog 3 f3 Rows.topEchoSpec Rows.topEchoRow=true:=by
 unfold joinedFacts
 repeat refine andI ?_ Wq6
 as_aux_lemma=>kernel_rfl
set_option maxHeartbeats 0 in
theorem x7:f3.isInstance checked.prog Rows.topEchoRow.origin Rows.topEchoRow.targs:=of_decide_eq_true (by kernel_rfl)
set_option maxHeartbeats 0 in
theorem x0:f3.isWrapper checked.prog Rows.topEchoRow.wrapper Rows.topEchoRow.mainSum:=of_decide_eq_true (by kernel_rfl)
set_option maxHeartbeats 0 in
theorem wB:checked.prog.funcNamed Rows.topEchoRow.func=some 3:=by kernel_rfl
theorem fa{W:World}(h:laidMetH prog Rows.topEchoRow.laid W):iG W:=
 kj (t:=262) (e:=5) (Ni:=uy) h (MakeChecks.laidMetH_plain _ _ _ Wq6) rfl (g:=0) Wq6 Wq6 Wq6 Wq6 Wq6 rfl gS
theorem i7(os:Os)(args:Array Value):laidMetH prog Rows.topEchoRow.laid ((World.doorLaid prog 400 os).forCall (λ_ _=>0) ⟨#[],args,[]⟩).memory:=
 laidMetH_of_parts3 (fuel:=8) (laidMet_of_run' 8 Wq6 Wq6) Wq6 Wq6
set_option maxRecDepth 100000 in
theorem uH(os:Os)(started:os.Started)(H:Type)(enc:TypeId×Value->H):
  ReturnsInHanded {} checked os 3 .any (λw args=>(Rows.topEchoSpec.pre enc prog f3 [] false w args/\laidMetH prog Rows.topEchoRow.laid w)/\sizedMet enc prog f3 (OpenSpec.ofChange Rows.topEchoSpec) false w args) (Rows.topEchoSpec.post enc prog f3 false true false false):=
 lz (C:=checked) (ts:=[22,3]) own0 started Wq6 func3
  (ChangeSpec.witness_shaped (enc:=enc) (C:=checked) (os:=os) (X:=λw _=>laidMetH prog Rows.topEchoRow.laid w) false (World.doorLaid prog 400 os) #[.slice none 0 0,.int .i64 0] 8 rfl (World.shaped_of_RefB Wq6 Wq6) Wq6 Wq6 Wq6 (i7 os _))
  rfl rfl rfl rfl (λds h=>by match ds,h with|[_,_],_=>rfl) AO Wq6 (λW vs h hx=>by
   have ht:=fa hx;obtain⟨v0,_,rfl,a0,v1,_,rfl,a1,rfl⟩:=h;obtain⟨A,c,b,rfl,h1, -,hb⟩:=a0.ints (e:=5) (k:= .u8) rfl rfl rfl;obtain⟨n1,rfl,w1⟩:=a1.int (k:= .i64) rfl;exact nP (Dt A c b (λx hx=>Jo (hb x hx)) n1 W h1 ht))
set_option maxHeartbeats 0 in
theorem x6:Rows.TopEchoSaid:=
 OpenClaim.holds_of_wide 3 f3 rfl rfl rfl rfl rfl rfl rfl ⟨rfl,rfl,rfl,rfl,rfl⟩ rfl rfl rfl rfl rfl wB func3 wC x7 x0
  (λos started H enc _=>uH os started H enc)
set_option maxHeartbeats 0 in
theorem topEcho_holds:Rows.TopEchoCardSaid:=
 Claim7.holds_tied_plain_at .later [] [.data] true Rows.topEchoCard.stood.harness false
  x6 (λ_ h=>by cases h) Wq6 (λ_ h=>by cases h) topEcho_row_tie rfl ⟨rfl,rfl⟩ Wq6 rfl
  (λf fn hf hfn=>by
   obtain rfl:f=3:=ay ((show prog.funcNamed "innkeeper/innkeepertop.TopEcho" =some 3 by as_aux_lemma=>kernel_rfl).symm.trans hf)|>.symm
   obtain rfl:fn=f3:=(ay (func3.symm.trans hfn)).symm;exact⟨by as_aux_lemma=>kernel_rfl,λj t ht=>by
    have hm:t∈f3.params.toList:=by simpa using Array.mem_of_getElem? ht
    have hall:(f3.params.toList.all λu=> !prog.wantsStandIn u)=true:=by as_aux_lemma=>kernel_rfl
    exact(show prog.wantsStandIn t=false by simpa using bo.1 hall t hm)⟩)
  Wq6
#print axioms topEcho_holds
end Go.Proofs.YtkegldppffignaaGreatDoor
