/- For every input the law TopOutputs answers true and leaves every argument as it was; the table of math/bits is what the program's text lays (the card ties it); no other condition. -/
import Derived.Test.YtbkgmdgackknfaaGreatDoorPaz
import Derived.JoinedOf
import Derived.Test.YtbkgmdgackknfaaGreatDoorCards
import Derived.Test.YtbkgmdgackknfaaGreatDoorTie
import Derived.SevenTiedAt
import Derived.Test.YtbkgmdgackknfaaGreatDoorPbaF
set_option linter.unusedSimpArgs false
set_option linter.unusedVariables false
set_option maxRecDepth 100000
set_option maxHeartbeats 4000000
namespace Go.Ink
open Go.RowKit
theorem tP(x:Int):IntKind.u8.wrap x=x%256:=by simp[IntKind.wrap,IntKind.bits,IntKind.signed]
theorem Mi{n:Int}(hn:0<=n):Gd n 0=n%256/\Gd n 1=n/256%256/\Gd n 2=n/65536%256/\Gd n 3=n/16777216%256:=by
 refine⟨?_,?_,?_,?_⟩<;>unfold Gd<;>rw[tP]
 .rw[show(2:Int)^(min (Int.toNat ((8*0:Nat):Int)) IntKind.u32.bits)=1 from rfl,Int.fdiv_eq_ediv_of_nonneg _ Wq7,Int.ediv_one]
 .rw[show(2:Int)^(min (Int.toNat ((8*1:Nat):Int)) IntKind.u32.bits)=256 from rfl,Int.fdiv_eq_ediv_of_nonneg _ Wq7]
 .rw[show(2:Int)^(min (Int.toNat ((8*2:Nat):Int)) IntKind.u32.bits)=65536 from rfl,Int.fdiv_eq_ediv_of_nonneg _ Wq7]
 rw[show(2:Int)^(min (Int.toNat ((8*3:Nat):Int)) IntKind.u32.bits)=16777216 from rfl,Int.fdiv_eq_ediv_of_nonneg _ Wq7]
end Go.Ink
namespace Go.Proofs.YtbkgmdgackknfaaGreatDoor
open Go.RowKit Go.Ink Go.Proofs.Tryz
attribute [local irreducible] OpY bH
end Go.Proofs.YtbkgmdgackknfaaGreatDoor
namespace Go.Ink
open Go.RowKit
theorem PW{n:Nat}{s:St}{op nn:Int}{U:Mmu}{d:Dev}(hr:s.right=true)(hc:eu s op nn=0):pG n s op nn U d=(we s (iB n s op nn ⟨U.m.calm,U.t⟩ d),(iB n s op nn ⟨U.m.calm,U.t⟩ d).u,(iB n s op nn ⟨U.m.calm,U.t⟩ d).d):=by
 unfold pG;rw[hr,hc]
 rfl
abbrev w1(c:Int):Int:=IntKind.u64.wrap (c+1)
abbrev Cfg:=St×Mmu×Dev
structure Step(n:Nat)(q q':Cfg):Prop where
 right:q.1.right=true
 pg:q.1.RW=false
 ie:q.1.ie=false
 tm:q.2.2.timer=0
 pc0:0<=q.1.pc
 go:∃op nn sz r,df n q.2.1.m q.1.pc.toNat=some ((op,nn),sz)/\pG n q.1 op nn q.2.1 q.2.2=(r,q'.2.1,q'.2.2)/\r.s=q'.1/\(fx op=false->q'.1.pc=(((q.1.pc.toNat+sz)%4294967296:Nat):Int))
theorem PJ{n:Nat}{M:Mem}{p:Nat}{x:(Int×Int)×Nat}(h:df n M p=some x):p/64<n:=by
 grind [df]
theorem Oa{n RY k sz p:Nat}{s:St}{op nn:Int}{U U':Mmu}{d d':Dev}{r:Res}(hf:df n U.m p=some ((op,nn),sz))(hq:pG n s op nn U d=(r,U',d'))(hn:jN op r RY s.pc=true):dX n RY (k+1) s p U d=dX n RY k r.s ((p+sz)%4294967296) U' d':=by
 grind [dX]
theorem Step.begins{n:Nat}{q q':Cfg}(h:Step n q q')(hl:q.1.halted=false):dy n q.1 q.2.1 q.2.2=⟨q.1,q.1.pc,true,q.2.1,q.2.2⟩:=by
 obtain⟨s,U,d⟩:=q;obtain⟨h1,h2,h3,h4,h5,op,nn,sz,r,h6, -⟩:=h;dsimp only at h1 h2 h3 h4 h5 h6 hl|-;have ht:d.tick s.count=d:=by
  unfold Dev.tick;rw[h4]
  rfl
 have hto:told s d=s:=by
  unfold told;cases Ln d with
  |none=>rfl
  |some k=>
   grind
 have hlt:=PJ h6;have hpl:cG n U s.space s.pc.toNat 1=(((s.pc.toNat:Int),Tr.none),U):=by
  have e:cU n U s.space s.pc.toNat 1=(((s.pc.toNat:Int),Tr.none),U):=by
   unfold cU St.space;rw[h2]
   rfl
  unfold cG;rw[e];dsimp only;rw[ay (show((s.pc.toNat:Nat):Int)<((n*64:Nat):Int) by omega)]
  rfl
 unfold dy;rw[h1,hl,ht,hto];show mB n s U d=_;unfold mB;rw[hpl];dsimp only;rw[show((s.pc.toNat:Nat):Int)=s.pc by omega]
 rfl
section
variable {n:Nat} {T:Nat->Cfg} (hT:∀i,(T i).1.halted=false->Step n (T i) (T (i+1)))
include hT
theorem xI(RY:Nat):∀(k i:Nat),1<=k->(T i).1.halted=false->RY=(T i).1.pc.toNat/64->∃j,i<j/\j<=i+k/\dX n RY k (T i).1 (T i).1.pc.toNat (T i).2.1 (T i).2.2=T j/\∀l,i<=l->l<j->(T l).1.halted=false
 |0,_,h,_,_=>by omega
 |k+1,i,_,hl,hp=>by
  obtain⟨h1,h2,h3,h4,h5,op,nn,sz,r,h6,h7,h8,h9⟩:=hT i hl;have one:∀l,i<=l->l<i+1->(T l).1.halted=false:=λl a b=>by
   grind
  have eT:(r.s,(T (i+1)).2.1,(T (i+1)).2.2)=T (i+1):=by rw[h8]
  cases hn:jN op r RY (T i).1.pc with
  |false=>
   grind [dX]
  |true=>
   rw[Oa h6 h7 hn];have hn2:=hn;unfold jN at hn2;have he:fx op=false:=by cases e:fx op with|false=>rfl|true=>grind
   have hh:r.s.halted=false:=by cases e:r.s.halted with|false=>rfl|true=>grind
   have hpp:(r.s.pc/64==(T i).1.pc/64)=true:=by
    revert hn2;cases(fx op||r.SW||r.device||r.s.halted||r.RG.contains RY)with
    |true=>grind
    |false=>grind
   have hpc:=h9 he;rw[h8]at hh hpp|-;have hto:(T (i+1)).1.pc.toNat=((T i).1.pc.toNat+sz)%4294967296:=by rw[hpc];exact aM _
   have hpg:RY=(T (i+1)).1.pc.toNat/64:=by
    have e:=jZ hpp;rw[hp];omega
   rw[<-hto];cases k with
   |zero=>exact⟨i+1,by omega,by omega,rfl,one⟩
   |succ k=>
    obtain⟨j,j1,j2,j3,j4⟩:=xI RY (k+1) (i+1) Wq1 hh hpg
    grind
theorem EC{i:Nat}(hl:(T i).1.halted=false):∃j,i<j/\j<=i+8/\dw n (T i).1 (T i).2.1 (T i).2.2=T j/\∀l,i<=l->l<j->(T l).1.halted=false:=by
 unfold dw;rw[(hT i hl).begins hl]
 simp_all [xI]
theorem u9{c0:Nat}(hc:∀i,(∀l,l<i->(T l).1.halted=false)->(T i).1.count=IntKind.u64.wrap ((c0+i:Nat):Int)){m:Int}{a:Nat}(hm:m<=1000000):∀(f i:Nat),(∀l,l<i->(T l).1.halted=false)->a<=i->i<=a+1000008->m<=((i - a:Nat):Int)+f->
  ∃j,i<=j/\mb n m (IntKind.u64.wrap ((c0+a:Nat):Int)) f (T i)=T j/\(∀l,l<j->(T l).1.halted=false)/\((T j).1.halted=true\/m<=((j - a:Nat):Int))/\(j=i\/((j:Int)<a+m+8))
 |0,i,hl,h1,h2,h3=>⟨i,aL _,rfl,hl,.inr Wq1,.inl rfl⟩
 |f+1,i,hl,h1,h2,h3=>by
  have hci:=hc i hl;cases hrc:fc m (IntKind.u64.wrap ((c0+a:Nat):Int)) (T i).1 with
  |false=>
   refine⟨i,aL _,lE (q:=T i) hrc,hl,?_,.inl rfl⟩
   grind [fc,IntKind.wrap_u64]
  |true=>
   rw[tT (q:=T i) hrc];unfold fc at hrc;simp only[aD,ae,Bool.not_eq_true']at hrc;obtain⟨⟨e1,e2⟩,e3⟩:=hrc;simp only[hci,aK]at e3;obtain⟨j,j1,j2,j3,j4⟩:=EC hT e2;rw[j3];have hlj:∀l,l<j->(T l).1.halted=false:=λl hh=>by
    grind
   have e4:((i - a:Nat):Int)<m:=by omega
   by_cases hja:m<=((j - a:Nat):Int)
   .have hcj:=hc j hlj;refine⟨j,by omega,lE (q:=T j) ?_,hlj,.inr hja,.inr Wq1⟩
    grind [fc,IntKind.wrap_u64]
   obtain⟨x,x1,x2,x3,x4,x5⟩:=u9 (m:=m) (a:=a) hc hm f j hlj Wq1 Wq1 Wq1;exact⟨x,by omega,x2,x3,x4,by omega⟩
theorem JX{c0:Nat}(hc:∀i,(∀l,l<i->(T l).1.halted=false)->(T i).1.count=IntKind.u64.wrap ((c0+i:Nat):Int)){m:Int}(hm:m<=1000000){a:Nat}(hl:∀l,l<a->(T l).1.halted=false):
  ∃j,a<=j/\fZ n m (T a).1 (T a).2.1 (T a).2.2=T j/\(∀l,l<j->(T l).1.halted=false)/\((T j).1.halted=true\/m<=((j - a:Nat):Int))/\(j=a\/((j:Int)<a+m+8)):=by
 have h:=u9 hT hc (m:=m) (a:=a) hm m.toNat a hl (aL _) Wq1 Wq1
 simp_all [fZ]
end
structure InsOk(op nn:Int):Prop where
 o:0<=op/\op<=255
 n0:0<=nn
 sz:(cy op=1/\nn=0)\/(cy op=2/\nn<=255)\/(cy op=5/\nn<=4294967295)
theorem Iq{op nn:Int}(h:InsOk op nn)(X:List Int):dj (iq op nn++X)=some ((op,nn),(iq op nn).length):=by
 have hw:IntKind.u8.wrap op=op:=by rw[tP];have:=h.o;omega
 have h0:=h.n0;rcases h.sz with⟨e,rfl⟩|⟨e,h1⟩|⟨e,h1⟩
 .unfold iq tG;rw[hw,e];show dj (op::X)=some ((op,0),1);unfold dj;dsimp only;rw[e];rw[ar (show¬((X.length:Int)+1<1) by omega)]
  rfl
 .unfold iq tG;rw[hw,e];show dj (op::Gd nn 0::X)=some ((op,nn),2);unfold dj;dsimp only;rw[e];rw[aQ,ar (show¬(((X.length+1:Nat):Int)+1<2) by omega),(Mi h0).1];show some ((op,nn%256+256*0),2)=_;rw[show nn%256+256*0=nn by omega]
 unfold iq tG;rw[hw,e];obtain⟨e0,e1,e2,e3⟩:=Mi h0;show dj (op::Gd nn 0::Gd nn 1::Gd nn 2::Gd nn 3::X)=some ((op,nn),5);unfold dj;dsimp only;rw[e];simp only[aQ];rw[ar (show¬(((X.length+1+1+1+1:Nat):Int)+1<5) by omega),e0,e1,e2,e3];show some ((op,nn%256+256*(nn/256%256+256*(nn/65536%256+256*(nn/16777216%256+256*0)))),5)=_;rw[show nn%256+256*(nn/256%256+256*(nn/65536%256+256*(nn/16777216%256+256*0)))=nn by omega]
theorem PK{n:Nat}{M:Mem}{p:Nat}{op nn:Int}{pre post:List Int}(h:InsOk op nn)(hd:M.data=pre++(iq op nn++post))(hp:pre.length=p)(hn:p/64<n)(hz:p%64+(iq op nn).length<=64):
  df n M p=some ((op,nn),(iq op nn).length):=by
 unfold df;rw[ay hn,ai,hd];have e:(((pre++(iq op nn++post)).drop (p/64*64)).take 64).drop (p%64)=iq op nn++post.take (64 - p%64 - (iq op nn).length):=by
  rw[List.drop_take,List.drop_drop,show p/64*64+p%64=p by omega,List.drop_append_of_le_length Wq1,<-hp,List.drop_length,aP,List.take_append,List.take_of_length_le Wq1]
 rw[e];exact Iq h _
theorem qW{n:Nat}{M:Mem}{l:List (Int×Int)}{post:List Int}(hd:M.data=et l++post){i:Nat}{op nn:Int}(hi:l[i]? =some (op,nn))(h:InsOk op nn)(hn:(gJ l i).length/64<n)(hz:(gJ l i).length%64+(iq op nn).length<=64):
  df n M (gJ l i).length=some ((op,nn),(iq op nn).length):=by
 have hil:=(aj.1 hi).1;have e:et l=gJ l i++(iq op nn++(l.drop (i+1)).flatMap λi=>iq i.1 i.2):=by
  have e1:et l=l.flatMap λi=>iq i.1 i.2:=by unfold et gJ;rw[bl]
  have e2:l=l.take i++(op,nn)::l.drop (i+1):=by
   have e3:l[i]=(op,nn):=(aj.1 hi).2;rw[<-e3,List.getElem_cons_drop,List.take_append_drop]
  rw[e1]
  conv=>lhs;rw[e2]
  rw[List.flatMap_append,List.flatMap_cons]
  rfl
 exact PK (pre:=gJ l i) (post:=((l.drop (i+1)).flatMap λi=>iq i.1 i.2)++post) h (by rw[hd,e,aw,aw]) rfl hn hz
def SS(pc:Int)(d:List Int)(fl c:Int):St:={St.new with pc:=pc,d:=d,flags:=fl,count:=c}
theorem nZ{pc fl c:Int}{d:List Int}(hd:d.length<=16)(hf:fl<=15):(SS pc d fl c).right=true:=by
 have e:St.new.r.length=0:=rfl;unfold St.right SS;simp;omega
theorem Dz{pc fl c:Int}{d:List Int}{q:(Nat×Nat)×(Nat×Nat)}(h1:q.1.1<=d.length)(h2:d.length - q.1.1+q.1.2<=16)(h3:q.2=(0,0)):kU (SS pc d fl c) q=0:=by
 obtain⟨⟨a,b⟩,e⟩:=q;subst h3;unfold kU SS;dsimp only at h1 h2|-;rw[ar (show¬((d.length:Int)<(a:Int)) by omega),ar (show¬(16<(d.length:Int) - (a:Int)+(b:Int)) by omega)]
 rfl
theorem ss_lit1(n:Nat){pc v fl c:Int}{d:List Int}(U:Mmu)(dv:Dev):(we (SS pc d fl c) (iB n (SS pc d fl c) 2 v ⟨U.m.calm,U.t⟩ dv),(iB n (SS pc d fl c) 2 v ⟨U.m.calm,U.t⟩ dv).u,(iB n (SS pc d fl c) 2 v ⟨U.m.calm,U.t⟩ dv).d)=(⟨SS (IntKind.u32.wrap (pc+5)) (d++[v]) fl (w1 c),false,false,[]⟩,⟨U.m.calm,U.t⟩,dv):=by kernel_rfl
theorem ss_lit(n:Nat){pc v fl c:Int}{d:List Int}(U:Mmu)(dv:Dev)(hd:d.length<16)(hf:fl<=15):pG n (SS pc d fl c) 2 v U dv=(⟨SS (IntKind.u32.wrap (pc+5)) (d++[v]) fl (w1 c),false,false,[]⟩,⟨U.m.calm,U.t⟩,dv):=by
 have hc:eu (SS pc d fl c) 2 v=0:=(show eu (SS pc d fl c) 2 v=kU (SS pc d fl c) ((0,1),(0,0)) by kernel_rfl).trans (Dz (au _) (by dsimp only;omega) rfl);rw[PW (nZ Wq1 hf) hc];exact ss_lit1 n U dv
theorem NY(n:Nat){pc fl c:Int}{d:List Int}(U:Mmu)(dv:Dev):(we (SS pc d fl c) (iB n (SS pc d fl c) 69 0 ⟨U.m.calm,U.t⟩ dv),(iB n (SS pc d fl c) 69 0 ⟨U.m.calm,U.t⟩ dv).u,(iB n (SS pc d fl c) 69 0 ⟨U.m.calm,U.t⟩ dv).d)=(⟨{SS (IntKind.u32.wrap (pc+1)) d fl (w1 c)with halted:=true},false,false,[]⟩,⟨U.m.calm,U.t⟩,dv):=by kernel_rfl
theorem ss_halt(n:Nat){pc fl c:Int}{d:List Int}(U:Mmu)(dv:Dev)(hd:d.length<=16)(hf:fl<=15):pG n (SS pc d fl c) 69 0 U dv=(⟨{SS (IntKind.u32.wrap (pc+1)) d fl (w1 c)with halted:=true},false,false,[]⟩,⟨U.m.calm,U.t⟩,dv):=by
 have hc:eu (SS pc d fl c) 69 0=0:=(show eu (SS pc d fl c) 69 0=kU (SS pc d fl c) ((0,0),(0,0)) by kernel_rfl).trans (Dz (au _) (by dsimp only;omega) rfl);rw[PW (nZ hd hf) hc];exact NY n U dv
section
variable {dv:Dev}
theorem vk{p z:Nat}(h:p+z<=1000):IntKind.u32.wrap ((p:Int)+(z:Int))=((p+z:Nat):Int)/\(((p:Int).toNat+z)%4294967296:Nat)=p+z:=by
 refine⟨by rw[u32_wrap_id _ Wq1 Wq1];omega,by rw[aM];omega⟩
theorem yM{c:Nat}(h:c<=1000):w1 (c:Int)=((c+1:Nat):Int):=by
 show IntKind.u64.wrap ((c:Int)+1)=_;rw[aK];omega
theorem Dy{n p z c:Nat}{d:List Int}{fl op nn:Int}{U U':Mmu}{pg:List Int}{s':St}(hd:d.length<=16)(hf:fl<=15)(ht:dv.timer=0)(hpz:p+z<=1000)(hfe:df n U.m p=some ((op,nn),z))
  (hdo:pG n (SS p d fl c) op nn U dv=(⟨s',false,false,pg⟩,U',dv)) (he:fx op=false->s'.pc=((p+z:Nat):Int)):Step n (SS p d fl c,U,dv) (s',U',dv):=
 ⟨nZ hd hf,rfl,rfl,ht,Int.natCast_nonneg p,op,nn,z,_,by show df n U.m ((p:Int)).toNat=_;rw[aM];exact hfe,hdo,rfl,λh=>by
  show s'.pc=(((p:Int).toNat+z)%4294967296:Nat);rw[(vk hpz).2];exact he h⟩
end
abbrev Nk:List Bool:=List.replicate 64 false
theorem w1_nat(c:Nat):w1 (IntKind.u64.wrap (c:Int))=IntKind.u64.wrap ((c+1:Nat):Int):=by
 show IntKind.u64.wrap (IntKind.u64.wrap (c:Int)+1)=_;simp only[aK];omega
section
variable {fl c:Int} (U:Mmu) (dv:Dev)
abbrev D3(n:Nat)(s:St)(op nn:Int)(U:Mmu)(dv:Dev):Res×Mmu×Dev:=(we s (iB n s op nn ⟨U.m.calm,U.t⟩ dv),(iB n s op nn ⟨U.m.calm,U.t⟩ dv).u,(iB n s op nn ⟨U.m.calm,U.t⟩ dv).d)
end
theorem NX(n:Nat){pc v fl c:Int}{d:List Int}(U:Mmu)(dv:Dev):(we (SS pc d fl c) (iB n (SS pc d fl c) 1 v ⟨U.m.calm,U.t⟩ dv),(iB n (SS pc d fl c) 1 v ⟨U.m.calm,U.t⟩ dv).u,(iB n (SS pc d fl c) 1 v ⟨U.m.calm,U.t⟩ dv).d)=(⟨SS (IntKind.u32.wrap (pc+2)) (d++[v]) fl (w1 c),false,false,[]⟩,⟨U.m.calm,U.t⟩,dv):=by kernel_rfl
theorem ss_lit8(n:Nat){pc v fl c:Int}{d:List Int}(U:Mmu)(dv:Dev)(hd:d.length<16)(hf:fl<=15)(hv:v<=255):pG n (SS pc d fl c) 1 v U dv=(⟨SS (IntKind.u32.wrap (pc+2)) (d++[v]) fl (w1 c),false,false,[]⟩,⟨U.m.calm,U.t⟩,dv):=by
 have hc:eu (SS pc d fl c) 1 v=0:=by
  have h1:gV 1 v=true:=ay hv;unfold eu;rw[h1];exact(show(bif !true then(1:Int)else bif rN 1&& !(SS pc d fl c).RM then 2 else bif(1:Int)==66&& !((SS pc d fl c).get v).2 then 1 else bif(1:Int)==67&& !((SS pc d fl c).set v 0).2 then 1 else kU (SS pc d fl c) (bO 1))=kU (SS pc d fl c) ((0,1),(0,0)) by kernel_rfl).trans (Dz (au _) bR rfl)
 grind [PW,nZ,NX]
def wR(l:List Int):List (Int×Int):=l.flatMap λv=>[(1,v),(2,32784),(49,0)]
def jM(l:List Int):List (Int×Int):=wR l++[(69,0)]
theorem uJ:∀l:List Int,(wR l).length=3*l.length
  |[]=>rfl
  |v::l=>by
    have:=uJ l;unfold wR at this|-;rw[List.flatMap_cons,aq,this,aQ];simp;omega
theorem Q5:∀{l:List Int} {j:Nat} {v:Int},l[j]? =some v->(wR l)[3*j]? =some (1,v)/\(wR l)[3*j+1]? =some (2,32784)/\(wR l)[3*j+2]? =some (49,0)
  |x::l,0,v,h=>by
    obtain rfl:x=v:=ax h;exact⟨rfl,rfl,rfl⟩
  |x::l,j+1,v,h=>Q5 (l:=l) (j:=j) (v:=v) h
section
variable {l:List Int}
theorem KB{j:Nat}{v:Int}(h:l[j]? =some v):(jM l)[3*j]? =some (1,v)/\(jM l)[3*j+1]? =some (2,32784)/\(jM l)[3*j+2]? =some (49,0):=by
  have hl:=uJ l;have hj:=(aj.1 h).1;unfold jM;rw[aZ Wq1,aZ Wq1,aZ Wq1];exact Q5 h
theorem OD(l:List Int):(jM l)[3*l.length]? =some (69,0):=by
  have hl:=uJ l;unfold jM;rw[List.getElem?_append_right Wq1,hl,Nat.sub_self]
  rfl
theorem pm:∀{j:Nat},j<=l.length->(gJ (jM l) (3*j)).length=8*j
  |0,_=>rfl
  |j+1,h=>by
    obtain⟨h1,h2,h3⟩:=KB (aa (show j<l.length by omega));rw[show 3*(j+1)=3*j+1+1+1 by omega,gI h3,gI h2,gI h1,aq,aq,aq,pm (j:=j) Wq1];show 8*j+2+5+1=_;omega
theorem ON{j:Nat}(h:j<l.length):(gJ (jM l) (3*j+1)).length=8*j+2/\(gJ (jM l) (3*j+2)).length=8*j+7:=by
  obtain⟨h1,h2,h3⟩:=KB (aa h);refine⟨?_,?_⟩
  . rw[gI h1,aq,pm Wq1]
    rfl
  rw[gI h2,gI h1,aq,aq,pm Wq1];show 8*j+2+5=_;omega
abbrev RV(n:Nat)(l:List Int):List Int:=et (jM l)++List.replicate (n*64 - (et (jM l)).length) 0
abbrev Hj(l:List Int):Mmu:=⟨⟨RV 2 l,Nk⟩,eB⟩
abbrev wrote(dv:Dev)(l:List Int)(j:Nat):Dev:={dv with out:=dv.out++l.take j}
def pS(l:List Int)(tu:List Bool)(dv:Dev)(i:Nat):Cfg:=
  (if 3*l.length<i then{SS (8*l.length+1:Nat) [] 0 (3*l.length+1:Nat)with halted:=true}else
   if i%3=0 then SS (8*(i/3):Nat) [] 0 i else
   if i%3=1 then SS (8*(i/3)+2:Nat) [l.getD (i/3) 0] 0 i else SS (8*(i/3)+7:Nat) [l.getD (i/3) 0,32784] 0 i,
   ⟨⟨RV 2 l,if i=0 then tu else Nk⟩,eB⟩,wrote dv l (i/3))
variable {tu:List Bool} {dv:Dev}
theorem out_st{pc c:Int}(ch:Nat)(U:Mmu)(dv:Dev):D3 2 (SS pc [(ch:Int),32784] 0 c) 49 0 U dv=(⟨SS (IntKind.u32.wrap (pc+1)) [] 0 (w1 c),false,true,[]⟩,⟨U.m.calm,U.t⟩,{dv with out:=dv.out++[IntKind.u8.wrap ch]}):=by kernel_rfl
theorem OE(hl:l.length<=7)(hv:∀v,v∈l->0<=v/\v<=255)(ht:dv.timer=0):∀i,(pS l tu dv i).1.halted=false->Step 2 (pS l tu dv i) (pS l tu dv (i+1)):=λi hh=>by
  have hnot:¬3*l.length<i:=λq=>by
    unfold pS at hh;rw[if_pos q]at hh;cases hh
  by_cases hend:i=3*l.length
  . subst hend
    have hf:df 2 ⟨RV 2 l,if 3*l.length=0 then tu else Nk⟩ (8*l.length)=some ((69,0),1):=by
      have h:=qW (n:=2) (M:=⟨RV 2 l,if 3*l.length=0 then tu else Nk⟩) (l:=jM l) (i:=3*l.length) rfl (OD l) ⟨by decide,by decide,.inl ⟨rfl,rfl⟩⟩ (by rw[pm (aL _)];omega) (by rw[pm (aL _)];show _+1<=64;omega);rw[pm (aL _)]at h;exact h
    have hq:=ss_halt 2 (pc:=((8*l.length:Nat):Int)) (fl:=0) (c:=((3*l.length:Nat):Int)) (d:=[]) ⟨⟨RV 2 l,if 3*l.length=0 then tu else Nk⟩,eB⟩ (wrote dv l l.length) cH Wq7;rw[show IntKind.u32.wrap (((8*l.length:Nat):Int)+1)=((8*l.length+1:Nat):Int)from(vk (p:=8*l.length) (z:=1) Wq1).1,yM Wq1]at hq;have e0:pS l tu dv (3*l.length)=(SS (8*l.length:Nat) [] 0 (3*l.length:Nat),⟨⟨RV 2 l,if 3*l.length=0 then tu else Nk⟩,eB⟩,wrote dv l l.length):=by
      unfold pS;rw[if_neg Wq1,if_pos Wq1,show 3*l.length/3=l.length by omega]
    have e1:pS l tu dv (3*l.length+1)=({SS (8*l.length+1:Nat) [] 0 (3*l.length+1:Nat)with halted:=true},Hj l,wrote dv l l.length):=by
      unfold pS;rw[if_pos Wq1,if_neg Wq1,show(3*l.length+1)/3=l.length by omega]
    rw[e0,e1];exact Dy (pg:=[]) cH Wq7 ht Wq1 hf hq (λh=>by cases h)
  obtain⟨j,r,hi,hr⟩:∃j r,i=3*j+r/\r<3:=⟨i/3,i%3,by omega,by omega⟩;have hjl:j<l.length:=by omega
  have hx:=aa hjl;obtain⟨v,hvx⟩:=Zgn (l[j]);rw[hvx]at hx;have hgd:l.getD j 0=v:=by rw[List.getD_eq_getElem?_getD,hx];rfl
  obtain⟨hv0,hv1⟩:=hv v (ak hx);obtain⟨a1,a2,a3⟩:=KB hx;obtain⟨b1,b2⟩:=ON hjl;have b0:=pm (l:=l) (j:=j) Wq1;have hdiv:(3*j+r)/3=j:=by omega
  obtain rfl|rfl|rfl:r=0\/r=1\/r=2:=by omega
  . subst hi
    have e0:pS l tu dv (3*j+0)=(SS (8*j:Nat) [] 0 (3*j:Nat),⟨⟨RV 2 l,if 3*j+0=0 then tu else Nk⟩,eB⟩,wrote dv l j):=by
      unfold pS;rw[if_neg Wq1,if_pos Wq1,hdiv]
      rfl
    have e1:pS l tu dv (3*j+0+1)=(SS (8*j+2:Nat) [v] 0 (3*j+1:Nat),Hj l,wrote dv l j):=by
      unfold pS;rw[if_neg Wq1,if_neg Wq1,if_pos Wq1,if_neg Wq1,show(3*j+0+1)/3=j by omega,hgd]
    have hf:df 2 ⟨RV 2 l,if 3*j+0=0 then tu else Nk⟩ (8*j)=some ((1,v),2):=by
      have h:=qW (n:=2) (M:=⟨RV 2 l,if 3*j+0=0 then tu else Nk⟩) (l:=jM l) (i:=3*j) rfl a1 ⟨by decide,hv0,.inr (.inl ⟨rfl,hv1⟩)⟩ (by rw[b0];omega) (by rw[b0];show _+2<=64;omega);rw[b0]at h;exact h
    have hq:=ss_lit8 2 (pc:=((8*j:Nat):Int)) (v:=v) (fl:=0) (c:=((3*j:Nat):Int)) (d:=[]) ⟨⟨RV 2 l,if 3*j+0=0 then tu else Nk⟩,eB⟩ (wrote dv l j) cH Wq7 hv1;rw[show IntKind.u32.wrap (((8*j:Nat):Int)+2)=((8*j+2:Nat):Int)from(vk (p:=8*j) (z:=2) Wq1).1,yM Wq1]at hq;rw[e0,e1];exact Dy (pg:=[]) cH Wq7 ht Wq1 hf hq Zrf
  . subst hi
    have e0:pS l tu dv (3*j+1)=(SS (8*j+2:Nat) [v] 0 (3*j+1:Nat),Hj l,wrote dv l j):=by
      unfold pS;rw[if_neg Wq1,if_neg Wq1,if_pos Wq1,if_neg Wq1,hdiv,hgd]
    have e1:pS l tu dv (3*j+1+1)=(SS (8*j+7:Nat) [v,32784] 0 (3*j+2:Nat),Hj l,wrote dv l j):=by
      unfold pS;rw[if_neg Wq1,if_neg Wq1,if_neg Wq1,if_neg Wq1,show(3*j+1+1)/3=j by omega,hgd]
    have hf:df 2 (Hj l).m (8*j+2)=some ((2,32784),5):=by
      have h:=qW (n:=2) (M:=(Hj l).m) (l:=jM l) (i:=3*j+1) rfl a2 ⟨by decide,by decide,.inr (.inr ⟨rfl,by decide⟩)⟩ (by rw[b1];omega) (by rw[b1];show _+5<=64;omega);rw[b1]at h;exact h
    have hq:=ss_lit 2 (pc:=((8*j+2:Nat):Int)) (v:=32784) (fl:=0) (c:=((3*j+1:Nat):Int)) (d:=[v]) (Hj l) (wrote dv l j) cH Wq7;rw[show IntKind.u32.wrap (((8*j+2:Nat):Int)+5)=((8*j+7:Nat):Int)from(vk (p:=8*j+2) (z:=5) Wq1).1,yM Wq1]at hq;rw[e0,e1];exact Dy (pg:=[]) cH Wq7 ht Wq1 hf hq Zrf
  subst hi;have e0:pS l tu dv (3*j+2)=(SS (8*j+7:Nat) [v,32784] 0 (3*j+2:Nat),Hj l,wrote dv l j):=by
    unfold pS;rw[if_neg Wq1,if_neg Wq1,if_neg Wq1,if_neg Wq1,hdiv,hgd]
  have e1:pS l tu dv (3*j+2+1)=(SS (8*j+8:Nat) [] 0 (3*j+3:Nat),Hj l,wrote dv l (j+1)):=by
    unfold pS;rw[if_neg Wq1,if_pos Wq1,if_neg Wq1,show(3*j+2+1)/3=j+1 by omega]
    rfl
  have hf:df 2 (Hj l).m (8*j+7)=some ((49,0),1):=by
    have h:=qW (n:=2) (M:=(Hj l).m) (l:=jM l) (i:=3*j+2) rfl a3 ⟨by decide,by decide,.inl ⟨rfl,rfl⟩⟩ (by rw[b2];omega) (by rw[b2];show _+1<=64;omega);rw[b2]at h;exact h
  obtain⟨ch,rfl⟩:∃ch:Nat,v=ch:=ap hv0;have hq:=(PW (nZ (pc:=((8*j+7:Nat):Int)) (c:=((3*j+2:Nat):Int)) (d:=[(ch:Int),32784]) (fl:=0) cH Wq7) (show eu (SS ((8*j+7:Nat):Int) [(ch:Int),32784] 0 ((3*j+2:Nat):Int)) 49 0=0 by kernel_rfl)).trans (out_st ch (Hj l) (wrote dv l j));rw[show IntKind.u32.wrap (((8*j+7:Nat):Int)+1)=((8*j+8:Nat):Int)from(vk (p:=8*j+7) (z:=1) Wq1).1,yM Wq1,show IntKind.u8.wrap (ch:Int)=(ch:Int) by rw[tP];omega]at hq;have ew:wrote dv l (j+1)={wrote dv l j with out:=(wrote dv l j).out++[(ch:Int)]}:=by
    unfold wrote;rw[List.take_add_one,hx];simp
  rw[e0,e1,ew];refine⟨nZ cH Wq7,rfl,rfl,ht,Int.natCast_nonneg _,49,0,1,_,by show df 2 (Hj l).m ((8*j+7:Nat):Int).toNat=_;rw[aM];exact hf,hq,rfl,λ_=>?_⟩;show((8*j+8:Nat):Int)=((((8*j+7:Nat):Int).toNat+1)%4294967296:Nat);rw[aM];omega
end
section
variable {l:List Int} {tu:List Bool} {dv:Dev}
theorem vm(i:Nat):(pS l tu dv i).1.halted=decide (3*l.length<i):=by
 unfold pS;by_cases h:3*l.length<i
 .grind
 rw[if_neg h,ar h];dsimp only;split
 .rfl
 split<;>rfl
theorem Hi{i:Nat}(h:i<=3*l.length+1):(pS l tu dv i).1.count=(i:Int):=by
 unfold pS;by_cases h2:3*l.length<i
 .rw[if_pos h2,show i=3*l.length+1 by omega]
  rfl
 rw[if_neg h2];dsimp only;split
 .rfl
 split<;>rfl
def Nd(l:List Int)(q:Cfg):Prop:=∃tu j,q=pS l tu (Dev.init []) j/\∀i,i<j->(pS l tu (Dev.init []) i).1.halted=false
theorem out_run{q:Cfg}(hl:l.length<=7)(hv:∀v,v∈l->0<=v/\v<=255)(h:Nd l q){m:Int}(hm:m<=1000000):Nd l (fZ 2 m q.1 q.2.1 q.2.2)/\(40<=m->(fZ 2 m q.1 q.2.1 q.2.2).1.halted=true/\(fZ 2 m q.1 q.2.1 q.2.2).2.2.out=l):=by
 obtain⟨tu,a,rfl,ha⟩:=h;have hub:∀i,(∀k,k<i->(pS l tu (Dev.init []) k).1.halted=false)->i<=3*l.length+1:=λi hi=>by
  grind [vm]
 obtain⟨j,h1,h2,h3,h4, -⟩:=JX (n:=2) (T:=pS l tu (Dev.init [])) (OE hl hv rfl) (c0:=0) (λi hi=>by
  grind [Hi,IntKind.wrap_u64]) hm ha
 rw[h2];refine⟨⟨tu,j,rfl,h3⟩,λhm40=>?_⟩
 grind [pS,Dev.init,vm,List.take_length]
theorem KA(h:l.length<=7):(et (jM l)).length<=128:=by
 have h1:=lM (jM l) (jM l).length;have h2:=uJ l;have h3:(jM l).length=3*l.length+1:=by unfold jM;rw[aq,h2];rfl
 show(gJ (jM l) (jM l).length).length<=128;omega
theorem Kz(h:l.length<=7):Nd l (St.new,(⟨Mem.load 2 (et (jM l)),eB⟩:Mmu),Dev.init []):=by
 have hd:=Mem.S4 (n:=2) (l:=et (jM l)) (KA h);obtain⟨⟨data,tu⟩,hM⟩:=Zgn (Mem.load 2 (et (jM l)));rw[hM]at hd|-;dsimp only at hd;subst hd;refine⟨tu,0,?_,λi hi=>absurd hi (Nat.not_lt_zero _)⟩;unfold pS;rw[if_neg Wq1,if_pos Wq1,if_pos Wq1]
 rfl
theorem NI{v:Int}:wR (l++[v])=wR l++[(1,v),(2,32784),(49,0)]:=by
 grind [wR]
end
end Go.Ink
namespace Go.Proofs.YtbkgmdgackknfaaGreatDoor
open Go.RowKit Go.Ink Go.Proofs.Tryz
theorem one_run{a:Ag}{x:It}(hd:a.dead=false)(hk:x.kind=1):(a.one x).1=a.run (min x.n 10000):=by
 grind [Ag.one]
def wL(W:List (List Int))(l:List Ag):Prop:=∀(i:Nat) (w:List Int),W[i]? =some w->∃s U d,l[i]? =some ⟨2,s,U,d,false⟩/\Nd w (s,U,d)
theorem wL.run{W:List (List Int)}{l:List Ag}(h:wL W l)(hW:∀w,w∈W->w.length<=7/\∀v,v∈w->0<=v/\v<=255){x:It}(hk:x.kind=1):wL W (dB l x).1/\(40<=x.n->∀(i:Nat) w,W[i]? =some w->x.RP=(i:Int)->∃s U d,(dB l x).1[i]? =some ⟨2,s,U,d,false⟩/\s.halted=true/\d.out=w):=by
 have key:∀(i:Nat) w,W[i]? =some w->∃s U d,(dB l x).1[i]? =some ⟨2,s,U,d,false⟩/\Nd w (s,U,d)/\(40<=x.n->x.RP=(i:Int)->s.halted=true/\d.out=w):=λi w hw=>by
  obtain⟨s,U,d,h1,h2⟩:=h i w hw;obtain⟨hw1,hw2⟩:=hW w (ak hw);rw[jw,h1,Option.map_some];by_cases hg:x.RP=(i:Int)
  .rw[if_pos hg,one_run rfl hk];obtain⟨q1,q2⟩:=out_run hw1 hw2 h2 (m:=min x.n 10000) Wq1;exact⟨_,_,_,rfl,q1,λh40 _=>q2 Wq1⟩
  grind
 refine⟨λi w hw=>?_,λh40 i w hw hg=>?_⟩
 .grind
 grind
end Go.Proofs.YtbkgmdgackknfaaGreatDoor
namespace Go.Ink
open Go.RowKit
theorem Lq(l:List (Int×Int)):∀u∈l.flatMap dA,u.oneCell'=true:=λu hu=>by
 obtain⟨i, -,hi⟩:=List.mem_flatMap.1 hu;simp only[dA,aG,List.not_mem_nil,or_false]at hi;rcases hi with rfl|rfl<;>rfl
theorem ins_app{l k:List (Int×Int)}:l.length+k.length=(l++k).length/\l.flatMap dA++k.flatMap dA=(l++k).flatMap dA:=by
 rw[aq,List.flatMap_append];exact fy
end Go.Ink
namespace Go.Proofs.YtbkgmdgackknfaaGreatDoor
open Go.RowKit Go.Ink Go.Proofs.Tryz
attribute [local irreducible] OpY bH
def eh(ws:List BSl)(i:Nat):List Int:=(97+(i:Int))::(match ws[i]? with|some x=>x.l.take 4|none=>[])
theorem p5{ws:List BSl}(h:∀x,x∈ws->u8s x.l){i:Nat}(hi:i<3):(eh ws i).length<=5/\u8s (eh ws i):=by
 unfold eh;cases hx:ws[i]? with
 |none=>exact⟨by simp,λy hy=>by rw[aB.1 hy];omega⟩
 |some x=>
  refine⟨by simp;omega,λy hy=>?_⟩;rcases aG.1 hy with rfl|q
  .omega
  exact h x (ak hx) y (bh q)
def QR(ws:List BSl)(L:List Im):Prop:=∀i x,L[i]? =some x->x.l=et (jM (eh ws i))/\x.k=[]/\x.B=none/\x.e=0/\x.n=2
theorem QR.snoc{ws:List BSl}{L:List Im}(h:QR ws L){A:Option Addr}{c:Nat}:QR ws (L++[(⟨A,c,et (jM (eh ws L.length)),none,0,[],2⟩:Im)]):=λi x hx=>by
 by_cases hi:i<L.length
 .rw[aZ hi]at hx;exact h i x hx
 rw[List.getElem?_append_right Wq1]at hx;have hi2:i - L.length=0:=by
  have:=(aj.1 hx).1;simp at this;omega
 rw[hi2]at hx;obtain rfl:=ax hx;obtain rfl:i=L.length:=by omega
 exact⟨rfl,rfl,rfl,rfl,rfl⟩
theorem QR.Sj{ws:List BSl}{L:List Im}(h:QR ws L)(h3:L.length<=3)(hw:∀x,x∈ws->u8s x.l):∀x,x∈L->x.Sj:=λx hx=>by
 obtain⟨i,hi⟩:=List.mem_iff_getElem?.1 hx;have hil:=(aj.1 hi).1;obtain⟨h1,h2,h3,h4,h5⟩:=h i x hi;obtain⟨w1,w2⟩:=p5 hw (i:=i) Wq1;have hl:=KA (l:=eh ws i) Wq1;rw[<-h1]at hl;refine⟨by rw[h1];exact qZ _ _,by rw[h2];exact eM,by omega,?_,by omega,by omega⟩;unfold Im.SN;rw[h2,h5,if_neg (show¬(0:Int)>2 by decide),ar (show¬((2:Int)<(((x.l.length+63)/64:Nat):Int)) by omega)]
 rfl
theorem QR.start{ws:List BSl}{L:List Im}(h:QR ws L)(h3:L.length=3)(hw:∀x,x∈ws->u8s x.l):wL [eh ws 0,eh ws 1,eh ws 2] (L.map Im.ag):=λi w hiw=>by
 have hi:i<3:=(aj.1 hiw).1;have e:w=eh ws i:=by
  obtain rfl|rfl|rfl:i=0\/i=1\/i=2:=by omega
  all_goals exact(ax hiw).symm
 subst e;obtain⟨x,hx⟩:∃x,L[i]? =some x:=⟨_,aa Wq1⟩;obtain⟨h1,h2, -, -,h5⟩:=h i x hx;obtain⟨w1, -⟩:=p5 hw hi;refine⟨St.new,⟨Mem.load 2 (et (jM (eh ws i))),eB⟩,Dev.init [],?_,Kz Wq1⟩;rw[aW,hx,Option.map_some];unfold Im.ag;rw[h1,h2,h5]
 rfl
abbrev Ni(A:Option Addr)(c:Nat)(W:List (List Int)):bC:=slv 9 1 A W.length c (W.map λw=> .string (strOfNums w))
theorem str_one(W:List (List Int)):∀u∈W.map (λw=>Value.string (strOfNums w)),u.oneCell'=true:=λu hu=>by
 obtain⟨w, -,rfl⟩:=bn.1 hu
 rfl
theorem yQ(A A2:Option Addr)(c c2:Nat)(ws:List BSl)(ts:List Int)(tr:Bool)(w:World)(h:RdV w 1 A ws.length c (ws.map BSl.v))(hw:∀x,x∈ws->Rd w .u8 x.A x.l.length x.c x.l/\u8s x.l)(h2:Rd w .i64 A2 ts.length c2 ts)(ht:fE w):
  Ctr prog 12 [.slice A ws.length c,.slice A2 ts.length c2,.bool tr] w [] (λv cs=>v= .bool true/\cs=[]):=by
 have hwu:∀x,x∈ws->u8s x.l:=λx hx=>(hw x hx).2
 refine Zfs func12 ntmps12 ?_;refine AO ?_;refine cT 33 3 (cT 9 1 (jS (dN (imF none 0 [] []++[Ni none 0 []]) Zj (Z_4 ?_))));refine bN (λq:Nat×List Im×(Option Addr×Nat)×(Option Addr×Nat)×List bC=>[(0,.slice A ws.length c),(1,.slice A2 ts.length c2),(2,.bool tr),(7,.slice q.2.2.1.1 q.2.1.length q.2.2.1.2),(8,.slice q.2.2.2.1.1 ((List.range q.1).map (eh ws)).length q.2.2.2.1.2),(9,.i (q.1:Int))]) (λq=>imF q.2.2.1.1 q.2.2.1.2 q.2.1 q.2.2.2.2++[Ni q.2.2.2.1.1 q.2.2.2.1.2 ((List.range q.1).map (eh ws))]) (λq=>q.1<=3/\q.2.1.length=q.1/\QR ws q.2.1/\∀w:World,(bQ q.2.2.2.2).ok w->∀x,x∈q.2.1->x.rd w) (λq=>3 - q.1) ((⟨0,[],(none,0),(none,0),[]⟩:Nat×List Im×(Option Addr×Nat)×(Option Addr×Nat)×List bC)) ?_ ?_ ?_ ?_
 .exact⟨au _,rfl,(λi x hx=>by cases hx),(λw _ x hx=>by cases hx)⟩
 .exact Zwk
 .exact Zu
 rintro⟨i,L,⟨Ai,ci⟩,⟨As,cs⟩,J⟩ ⟨hi3,hLi,hI,hR⟩;dsimp only at hi3 hLi hI hR|-;obtain⟨W,hW⟩:=Zgn ((List.range i).map (eh ws));rw[hW];have hWi:W.length=i:=(by rw[<-hW,aV,List.length_range]);refine Zw7 ?_ ?_<;>intro hc4
 .simp only[ae]at hc4;have hil:i<3:=Wq1;obtain⟨wd1,wd2⟩:=p5 hwu hil;refine Z_7 ?_;refine ri ?_;refine Zy (cQ rfl rfl (Zv rfl) (show _=97+(i:Int)from by rw[tP];omega)) ?_;refine kY ?_;rintro _ _ ⟨b26,rfl,rfl⟩;refine Z_3 ?_;refine cD (λq:Option Addr×Nat×List Int=>[(0,.slice A ws.length c),(1,.slice A2 ts.length c2),(2,.bool tr),(7,.slice Ai L.length ci),(8,.slice As W.length cs),(9,.i (i:Int)),(10,.slice q.1 q.2.2.length q.2.1)]) (λq=>sl .u8 5 q.1 q.2.2.length q.2.1 q.2.2::(imF Ai ci L J++[Ni As cs W])) (λq=>q.2.2=eh ws i) ?_ ?_
  .refine Zw8 ?_ ?_<;>intro hc7
   .simp only[ae]at hc7;have hiw:i<ws.length:=Wq1;obtain⟨ad,rfl⟩:=h.some_ Wq1;obtain⟨x,hx⟩:∃x,ws[i]? =some x:=⟨_,aa hiw⟩;obtain⟨hx1,hx2⟩:=hw x (ak hx);have hwx:[97+(i:Int)]++x.l.take 4=eh ws i:=(by unfold eh;rw[hx];rfl);have hxl:(x.l.take 4).length<=4:=(by rw[aI];omega);refine Z_4 ?_;refine wJ ?_;refine dK (bF Zrf (nH rfl)) (dL h (show(ws.map BSl.v)[i]? =some x.v by rw[aW,hx];rfl)) rfl ?_;refine ZSe (λw hi=>wn x.A x.c x.l 4 w hx1.cap) ?_;refine fW (cj (e:=5) (sz:=1) (bytes:=1) rfl rfl Za rfl rfl (λw hi=>kp (hx1.RU hi) 4) di gq Wq1) rfl ?_;rintro _ _ ⟨A4,c4,rfl,rfl⟩;rw[show 1+(x.l.take 4).length=(eh ws i).length from(by rw[<-hwx,aq];rfl),show[Value.int .u8 (97+(i:Int))]++ints .u8 (x.l.take 4)=ints .u8 (eh ws i)from(by rw[<-hwx];exact bX [97+(i:Int)] (x.l.take 4))];refine Z_2 ?_;refine bJ (((A4,c4,eh ws i):Option Addr×Nat×List Int)) ?_ ?_ ?_
    .rfl
    .exact Zwk
    exact Zj
   simp only[ac]at hc7;have hwx:[97+(i:Int)]=eh ws i:=(by unfold eh;rw[List.getElem?_eq_none Wq1]);refine Zc (bJ (((some ⟨b26,0,none⟩,1,[97+(i:Int)]):Option Addr×Nat×List Int)) ?_ ?_ ?_)
   .exact hwx
   .exact Zwk
   exact Zj
  rintro⟨Aw,cw,wo⟩ hwo;dsimp only at hwo|-;rw[<-hwo]at wd1 wd2;replace hwo:=hwo.symm;refine Z_8 ?_;refine cT 71 2 (dN (slv 71 2 none (wR (wo.take 0)).length 0 ((wR (wo.take 0)).flatMap dA)::sl .u8 5 Aw wo.length cw wo::(imF Ai ci L J++[Ni As cs W])) Zj (Z_4 ?_));refine bN (λq:Nat×Option Addr×Nat=>[(0,.slice A ws.length c),(1,.slice A2 ts.length c2),(2,.bool tr),(7,.slice Ai L.length ci),(8,.slice As W.length cs),(9,.i (i:Int)),(10,.slice Aw wo.length cw),(11,.slice q.2.1 (wR (wo.take q.1)).length q.2.2),(12,.i (q.1:Int))]) (λq=>slv 71 2 q.2.1 (wR (wo.take q.1)).length q.2.2 ((wR (wo.take q.1)).flatMap dA)::sl .u8 5 Aw wo.length cw wo::(imF Ai ci L J++[Ni As cs W])) (λq=>q.1<=wo.length) (λq=>wo.length - q.1) ((⟨0,none,0⟩:Nat×Option Addr×Nat)) ?_ ?_ ?_ ?_
  .exact au _
  .exact Zwk
  .exact Zu
  rintro⟨k,Ak,ck⟩ hk;dsimp only at hk|-;have htl:=uJ (wo.take k);rw[aI]at htl;refine Zw9 ?_ ?_<;>intro hc11
  .simp only[ae]at hc11;have hkl:k<wo.length:=Wq1;refine mU (λw hi=>dV (hi.get (show Has _ (sl .u8 5 Aw wo.length cw wo)from Zh)) Wq1) (λhq=>?_);obtain⟨bw,rfl⟩:=hq;obtain⟨v,hv⟩:∃v,wo[k]? =some v:=⟨_,aa hkl⟩;have hvr:=wd2 v (ak hv);have htr:wR (wo.take k)++[(1,v),(2,32784),(49,0)]=wR (wo.take (k+1)):=(by rw[List.take_add_one,hv];exact NI.symm);obtain⟨e1,e2⟩:=ins_app (l:=wR (wo.take k)) (k:=[(1,v),(2,32784),(49,0)]);rw[htr]at e1 e2;refine Z_8 ?_;refine Zy (bV (j:=k) (sz:=1) (r:=k) rfl Zrf (Zv rfl) (Zv rfl) Wq2 Wq2 Wq1) ?_;refine dK (bF Zrf (Zv rfl)) (cM (show Has _ (sl .u8 5 (sA bw) wo.length cw wo)from Zh) (cq hv)) rfl (Zy (cQ rfl rfl (Zv rfl) (show _=v from by rw[u32_wrap_id _ Wq1 Wq1])) ?_);refine ZSe (λw hi=>NG _ _ w) ?_;refine ZSe (λw hi=>yX _ w) ?_;refine ZSe (λw hi=>Bl _ w) ?_;refine jj ?_;rintro _ _ ⟨b53,rfl,rfl⟩;refine fW (cj (e:=71) (sz:=2) (bytes:=16) rfl rfl Za rfl rfl (λw hi=>hi.rd (show Has _ (slv 71 2 (sA b53) 3 3 ([((1:Int),v),(2,32784),(49,0)].flatMap dA))from Zh)) (Lq [((1:Int),v),(2,32784),(49,0)]) gq Wq1) rfl ?_;rintro _ _ ⟨A5,c5,rfl,rfl⟩;rw[show(wR (wo.take k)).length+3=(wR (wo.take (k+1))).length from e1,e2];refine Z_6 ?_;refine Wq6 ?_;refine bJ ((⟨k+1,A5,c5⟩:Nat×Option Addr×Nat)) ?_ ?_ ?_
   .exact⟨show k+1<=wo.length by omega,show wo.length - (k+1)<wo.length - k by omega⟩
   .exact Zwk
   exact Zj
  simp only[ac]at hc11;obtain rfl:k=wo.length:=Wq1;rw[bl]at htl|-;refine Z_9 ?_;refine ZSe (λw hi=>Bl _ w) ?_;refine jj ?_;rintro _ _ ⟨b58,rfl,rfl⟩;refine fW (cj (e:=71) (sz:=2) (bytes:=16) rfl rfl Za rfl rfl (λw hi=>hi.rd (show Has _ (slv 71 2 (sA b58) 1 1 ([((69:Int),(0:Int))].flatMap dA))from Zh)) (Lq [((69:Int),(0:Int))]) gq Wq1) rfl ?_;rintro _ _ ⟨A6,c6,rfl,rfl⟩;rw[show(wR wo).length+1=(jM wo).length from(by unfold jM;rw[aq];rfl),show(wR wo).flatMap dA++[((69:Int),(0:Int))].flatMap dA=(jM wo).flatMap dA from(by unfold jM;rw[List.flatMap_append])];have hol:(jM wo).length<=1000:=(by unfold jM;rw[aq,htl];show _+1<=1000;omega);refine ZSn (λw hi=>yY A6 c6 (jM wo) hol w (hi.rd (show Has _ (slv 71 2 A6 (jM wo).length c6 ((jM wo).flatMap dA))from Zh))) ?_;rintro _ _ ⟨A7,c7,rfl,rfl⟩;refine ZA ?_;refine jj ?_;rintro _ _ ⟨b62,rfl,rfl⟩;refine fW (cj (e:=33) (sz:=3) (bytes:=56) rfl rfl Za rfl rfl (λw hi=>hi.rd (show Has _ (slv 33 3 (sA b62) 1 1 (Im.cells ⟨A7,c7,et (jM wo),none,0,[],2⟩))from Zh)) (vR ⟨A7,c7,et (jM wo),none,0,[],2⟩) gq Wq1) rfl ?_;rintro _ _ ⟨A8,c8,rfl,rfl⟩;rw[show L.length+1=(L++[(⟨A7,c7,et (jM wo),none,0,[],2⟩:Im)]).length from(by rw[aq];rfl),show L.flatMap Im.cells++Im.cells ⟨A7,c7,et (jM wo),none,0,[],2⟩=(L++[(⟨A7,c7,et (jM wo),none,0,[],2⟩:Im)]).flatMap Im.cells from(by rw[List.flatMap_append,List.flatMap_cons,List.flatMap_nil,az])];refine Z_6 ?_;refine dZ (λw hi=>kq (hi.rd (show Has _ (sl .u8 5 Aw wo.length cw wo)from Zh))) (λhrd66=>?_);refine dK (j9 rfl rfl rfl (Zv rfl) hrd66) (λw hi=>RdV.Sg (hi.rd (show Has _ (sl .u8 5 Aw wo.length cw wo)from Zh))) rfl (kY ?_);rintro _ _ ⟨b67,rfl,rfl⟩;refine fW (cj (e:=9) (sz:=1) (bytes:=16) rfl rfl Za rfl rfl (λw hi=>hi.rd (show Has _ (slv 9 1 (sA b67) 1 1 ([wo].map λw=>Value.string (strOfNums w)))from Zh)) (str_one [wo]) gq Wq1) rfl ?_;rintro _ _ ⟨A9,c9,rfl,rfl⟩;rw[show W.length+1=((List.range (i+1)).map (eh ws)).length from(by rw[<-hW,List.range_succ,List.map_append,aq];rfl),show(W.map λw=>Value.string (strOfNums w))++([wo].map λw=>Value.string (strOfNums w))=((List.range (i+1)).map (eh ws)).map (λw=>Value.string (strOfNums w))from(by rw[<-hW,<-hwo,List.range_succ,List.map_append,List.map_append];rfl)];refine Z_5 ?_;refine lY [sl .u8 5 A7 (et (jM wo)).length c7 (et (jM wo)),bQ J] Zi (ZA ?_);refine Wq6 ?_;have hI2:QR ws (L++[(⟨A7,c7,et (jM wo),none,0,[],2⟩:Im)]):=(by rw[<-hwo,<-hLi];exact hI.snoc);refine bJ ((⟨i+1,L++[(⟨A7,c7,et (jM wo),none,0,[],2⟩:Im)],(A8,c8),(A9,c9),[sl .u8 5 A7 (et (jM wo)).length c7 (et (jM wo)),bQ J]⟩:Nat×List Im×(Option Addr×Nat)×(Option Addr×Nat)×List bC)) ?_ ?_ ?_
  .exact⟨⟨show i+1<=3 by omega,(by rw[aq,hLi];rfl),hI2,(λw hj x hx=>by have e:∀c',c'∈[sl .u8 5 A7 (et (jM wo)).length c7 (et (jM wo)),bQ J]->c'.ok w:=jk hj;rcases aF.1 hx with q|q;exact hR w (e _ (.tail _ (.head _))) x q;rw[aB.1 q];exact⟨eL (e _ (.head _)),jq w .u8⟩)⟩,show 3 - (i+1)<3 - i by omega⟩
  .exact Zwk
  exact Zj
 simp only[ac]at hc4;obtain rfl:i=3:=Wq1;have hg:=hI.Sj Wq1 hwu;have hboot:=fj Wq1 Wq1 hg;have hg3:=gO hg;have hO:=hI.start hLi hwu;refine Z_9 ?_;refine ZSn (λw hi=>iR hboot hg3 (hi.rd (show Has _ (slv 33 3 Ai L.length ci (L.flatMap Im.cells))from Zh)) (hR w (hi.get (show Has _ (bQ J)from Zh)))) ?_;rintro _ _ ⟨bm,m,⟨hm,hlm⟩,rfl,rfl⟩;refine AO ?_;refine rh ?_;rw[<-hlm]at hO;have hW3:W=[eh ws 0,eh ws 1,eh ws 2]:=(by rw[<-hW];rfl);rw[<-hW3]at hO;have hWl:W.length=3:=(by rw[hW3];rfl);have hWo:∀x,x∈W->x.length<=7/\∀v,v∈x->0<=v/\v<=255:=(λx hx=>by rw[<-hW]at hx;obtain⟨j,hj,rfl⟩:=bn.1 hx;obtain⟨q1,q2⟩:=p5 hwu (List.mem_range.1 hj);exact⟨by omega,q2⟩);clear hlm hboot hI hR;refine dN (Ni As cs W::dq bm m) Zj (Z_4 ?_);refine bN (λq:Nat×Mon=>[(1,.slice A2 ts.length c2),(8,.slice As W.length cs),(13,.p bm),(15,.i (q.1:Int))]) (λq=>Ni As cs W::dq bm q.2) (λq=>q.1<=20/\q.2.ok (80000*q.1)/\wL W q.2.l) (λq=>20 - q.1) ((⟨0,m⟩:Nat×Mon)) ?_ ?_ ?_ ?_
 .exact⟨au _,hm,hO⟩
 .exact Zwk
 .exact Zu
 rintro⟨j,m⟩ ⟨hj20,hm,hO⟩;dsimp only at hj20 hm hO|-;refine uw ?_ ?_<;>intro hc20
 .have hc20':j<ts.length/\j<20:=(by simp only[aD,ae]at hc20;omega);obtain⟨hjl,hj3⟩:=hc20';obtain⟨at_,rfl⟩:=h2.some_ Wq1;obtain⟨t,htt⟩:∃t,ts[j]? =some t:=⟨_,aa hjl⟩;obtain⟨g,hg⟩:=Zgn (gx t 0 2);obtain⟨n,hn⟩:=Zgn (gx t 0 9);have hnr:=fT t 0 9 Wq7;rw[hn]at hnr;have HG:=λw=>hg▸fu t 0 2 w Wq7 Wq7 Wq7
  have HN:=λw=>hn▸fu t 0 9 w Wq7 Wq7 Wq7
  have HD:=λB d w hi hA ht=>fw bm m (80000*j) hm Wq1 ⟨1,g,1+n,none,0,[]⟩ eM (au _) (show(-9223372036854775808:Int)<=1+n by omega) B d w hi hA (λw' _=>jq w' .u8) ht
  obtain⟨hO2, -⟩:=hO.run hWo (x:=⟨1,g,1+n,[]⟩) rfl;refine Z_4 ?_;refine ig ⟨λj=>List.elem j [14],[]⟩ [(0,0),(1,0),(2,0),(3,0),(4,4),(6,0),(7,0),(8,0),(9,4),(5,2),(10,2),(11,0),(12,0),(13,2),(14,2)] Zk Zk (nN ?_);refine nN ?_;refine nN ?_;refine dx rfl (bS (j:=j) rfl Zrf (Zv rfl) (Zv rfl) Wq2 Wq2) rfl (kb rfl (bF Zrf Zv0) (dL h2 (cq htt)) rfl (nN ?_));refine nN ?_;refine dx rfl (bS (j:=j) rfl Zrf (Zv rfl) (Zv rfl) Wq2 Wq2) rfl (kb rfl (bF Zrf Zv0) (dL h2 (cq htt)) rfl (eW ?_));refine la rfl rfl (dW rfl (λ_ _=>rfl) (λw hi=>HG w)) ZJ rfl ?_;rintro _ _ ⟨_,⟨rfl,rfl⟩,rfl⟩;refine eW ?_;refine la rfl rfl (dW rfl (λ_ _=>rfl) (λw hi=>HN w)) ZJ rfl ?_;rintro _ _ ⟨_,⟨rfl,rfl⟩,rfl⟩;refine dx rfl (ef Zv0 Zv0 Zl) rfl (dx rfl (oX rfl rfl Zrf rfl rfl rfl Zb) rfl (EL ?_));rintro _ _ ⟨b104,rfl,rfl⟩;refine eW ?_;refine ZcSn (dq bm m) (λw hi hin=>HD (sA b104) 1 w hin (λw' hk=>hi.Sr Zi (show Has _ (slv 35 4 (sA b104) 1 1 [.i 1,.i g,.i (1+n),.slice none 0 0])from Zh) hk) (λw' hk=>RdV.RT ht hi Zi hk)) ?_;rintro _ _ ⟨m2,Y,bz,cz,J2,⟨hm2,hl2, -⟩,rfl,rfl⟩;have hO3:wL W m2.l:=hl2▸hO2;refine lb (gh ?_);refine bJ ((⟨j+1,m2⟩:Nat×Mon)) ?_ ?_ ?_
  .exact⟨⟨show j+1<=20 by omega,hm2.le Wq1,hO3⟩,show 20 - (j+1)<20 - j by omega⟩
  .exact Zwk
  exact Zj
 clear hc20;refine IP ?_;refine Zt (Zs (Zs (Zr ?_)));refine dZ (λw hi=>dV (hi.get (show Has _ (Ni As cs W)from Zh)) Wq1) (λhq=>?_);obtain⟨bs_,rfl⟩:=hq;refine ZA ?_;refine Zn (Zt (Zx ?_));refine bN (λq:Nat×Mon=>[(8,.slice (sA bs_) W.length cs),(13,.p bm),(16,.i (q.1:Int))]) (λq=>Ni (sA bs_) cs W::dq bm q.2) (λq=>q.1<=3/\q.2.ok (1600000+80000*q.1)/\wL W q.2.l) (λq=>3 - q.1) ((⟨0,m⟩:Nat×Mon)) ?_ ?_ ?_ ?_
 .exact⟨au _,hm.le Wq1,hO⟩
 .exact Zwk
 .exact Zu
 rintro⟨j,m⟩ ⟨hj3,hm,hO⟩;dsimp only at hj3 hm hO|-;refine Zw7 ?_ ?_<;>intro hc24
 .simp only[ae]at hc24;have hjl:j<W.length:=Wq1;obtain⟨wo,hwo⟩:∃wo,W[j]? =some wo:=⟨_,aa hjl⟩;obtain⟨-,wd2⟩:=hWo wo (ak hwo);have HD:=λB d w hi hA ht=>fw bm m (1600000+80000*j) hm Wq1 ⟨1,j,40,none,0,[]⟩ eM (au _) (show(-9223372036854775808:Int)<=40 by decide) B d w hi hA (λw' _=>jq w' .u8) ht
  obtain⟨hO2,hE⟩:=hO.run hWo (x:=⟨1,j,40,[]⟩) rfl;obtain⟨s,U,d,hs1,hs2,hs3⟩:=hE (show(40:Int)<=40 by decide) j wo hwo rfl;refine Z_9 ?_;refine jj ?_;rintro _ _ ⟨b113,rfl,rfl⟩;refine dz (dq bm m) (λw hi hin=>HD (sA b113) 1 w hin (λw' hk=>hi.Sr Zi (show Has _ (slv 35 4 (sA b113) 1 1 [.i 1,.i (j:Int),.i 40,.slice none 0 0])from Zh) hk) (λw' hk=>RdV.RT ht hi Zi hk)) ?_;rintro _ _ ⟨m2,Y,bz,cz,J2,⟨hm2,hl2, -⟩,rfl,rfl⟩;rw[<-hl2]at hs1 hO2;have hgw:=(hm2.f _ (ak hs1)).wf;have HV:=λ{w0:World} {S:List Nat} {cs rest:List bC} (w:World) (hi:Inv w0 S cs w) (hs:eJ (dq bm m2) cs rest)=>ft bm m2 _ hm2 Wq1 j _ hs1 w hi hs
  have hvw:Ag.view ⟨2,s,U,d,false⟩=⟨s,U.m.data,wo,d.inp,d.Sb,d.Sc,d.mask,false⟩:=(by rw[<-hs3];rfl);rw[hvw]at HV hgw;refine Z_6 ?_;refine ZSn (λw hi=>HV w hi Zi) ?_;rintro _ _ ⟨Y4,J4,hR4,rfl,rfl⟩;refine Z_3 ?_;refine ZN λb17=>?_
  refine iD ?_;refine Dd ?_;refine ZE 2 ?_;refine ZFf 3 17 ?_;refine Zy7 4 rfl (bE rfl rfl) (bF Zrf (bU rfl)) (cN Zh rfl) ?_;refine wa_fact (λw hi=>kq ((hR4 w (hi.get (show Has _ (bQ J4)from Zh))).o)) (λhrd126=>?_);refine Zy7 5 rfl (bE rfl rfl) (j9 rfl rfl rfl (bU rfl) hrd126) (λw hi=>RdV.Sg ((hR4 w (hi.get (show Has _ (bQ J4)from Zh))).o)) ?_;refine ZF 6 ?_;refine ZF 7 ?_;refine Zy6 8 rfl (bE rfl rfl) (bV (j:=j) (sz:=1) (r:=j) rfl Zrf (bU rfl) (bU rfl) Wq2 Wq2 Wq1) ?_;refine Zy7 9 rfl (bE rfl rfl) (bF Zrf (bU rfl)) (cM (show Has _ (Ni (sA bs_) cs W)from Zh) (show(W.map λw=>Value.string (strOfNums w))[j]? =some (.string (strOfNums wo)) by rw[aW,hwo];rfl)) ?_;refine Zy6 10 rfl (bE rfl rfl) (QV rfl (bU rfl) (bU rfl) (show _=false from(E6 hgw.o hgw.o).trans (bj wo))) ?_;refine ZE 11 ?_;refine ZE 12 ?_;refine ZFf 13 0 ?_;refine ZFf 14 15 ?_;refine Zy7 15 rfl (bE rfl rfl) (bF Zrf (bU rfl)) (cN (xs:=Vw.cells ⟨s,U.m.data,wo,d.inp,d.Sb,d.Sc,d.mask,false⟩ Y4) Zh (show some (Value.bool s.halted)=some (.bool true) by rw[hs2])) ?_;refine ZF 16 ?_;refine ZE 17 ?_;refine eQ ?_;refine Zt (cJ rfl (rfl) ?_);refine gv ?_;refine bJ ((⟨j+1,m2⟩:Nat×Mon)) ?_ ?_ ?_
  .exact⟨⟨show j+1<=3 by omega,hm2.le Wq1,hO2⟩,show 3 - (j+1)<3 - j by omega⟩
  .exact Zwk
  exact Zj
 clear hc24;refine IP ?_;refine Zt (Zs (Zr (ZS (λw hi=>AE w (ht.old hi)) ?_)));rintro _ _ ⟨_,⟨rfl,rfl⟩,rfl⟩;refine ZA ?_;refine Zn (Zt (Ze (Zra ?_)));exact fy
theorem OI{W:World}{v:Value}(h:wP prog W 67 v):∃(A:Option Addr) (c:Nat) (ws:List BSl),v= .slice A ws.length c/\RdV W 1 A ws.length c (ws.map BSl.v)/\∀x,x∈ws->Rd W .u8 x.A x.l.length x.c x.l/\u8s x.l:=by
 obtain⟨A,c,xs,h1,h2,h3, -⟩:=wP.rows (e:=31) (f:=λx:BSl=>[x.v]) (Q:=λx=>Rd W .u8 x.A x.l.length x.c x.l/\u8s x.l) rfl rfl Zrf ⟨none,0,[]⟩ (λes he=>by
  obtain⟨A2,d2,x2,e2,r2,b2,z2⟩:=he.ints (e:=5) (k:= .u8) rfl rfl rfl;exact⟨⟨A2,d2,x2⟩,e2,r2,λx hx=>Je (z2 x hx)⟩) h
 refine⟨A,c,xs,h1,?_,h3⟩;rw[show xs.map BSl.v=xs.flatMap (λx:BSl=>[x.v])from List.map_eq_flatMap];exact h2
open Go
theorem cX{W:World}(h:laidMetH prog Rows.topOutputsRow.laid W):fE W:=
 fU (t:=280) (e:=5) (Si:=qe) h (MakeChecks.laidMetH_plain _ _ _ Wq4) rfl (g:=0) Wq4 Wq4 Wq4 Wq4 Wq4 rfl gq
theorem eO(os:Os)(args:Array Value):laidMetH prog Rows.topOutputsRow.laid ((World.doorLaid prog 400 os).forCall (λ_ _=>0) ⟨#[],args,[]⟩).memory:=
 laidMetH_of_parts3 (fuel:=8) (laidMet_of_run' 8 Wq4 Wq4) Wq4 Wq4
set_option maxRecDepth 100000 in
theorem rq(os:Os)(started:os.Started)(H:Type)(enc:TypeId×Value->H):
  ReturnsInHanded {} checked os 12 .any (λw args=>(Rows.topOutputsSpec.pre enc prog f12 [] false w args/\laidMetH prog Rows.topOutputsRow.laid w)/\sizedMet enc prog f12 (OpenSpec.ofChange Rows.topOutputsSpec) false w args) (Rows.topOutputsSpec.post enc prog f12 false true false false):=
 hH (C:=checked) (ts:=[67,55,4]) Nj started Wq4 func12
  (ChangeSpec.witness_shaped (enc:=enc) (C:=checked) (os:=os) (X:=λw _=>laidMetH prog Rows.topOutputsRow.laid w) false (World.doorLaid prog 400 os) #[.slice none 0 0,.slice none 0 0,.bool false] 8 rfl (World.shaped_of_RefB Wq4 Wq4) Wq4 Wq4 Wq4 (eO os _))
  rfl rfl rfl rfl (λds h=>by match ds,h with|[_,_,_],_=>rfl) vJ Wq4 (λW vs h hx=>by
   have ht:=cX hx;obtain⟨v0,_,rfl,a0,v1,_,rfl,a1,v2,_,rfl,a2,rfl⟩:=h;obtain⟨A,c,l,rfl,hl,hr⟩:=OI a0;obtain⟨B,cb,b,rfl,h2, -, -⟩:=a1.ints (e:=3) (k:= .i64) rfl rfl rfl;obtain⟨e3,rfl⟩:=a2.bool rfl;exact jl (yQ A B c cb l b e3 W hl hr h2 ht))
set_option maxHeartbeats 0 in
theorem uM:Rows.TopOutputsSaid:=
 OpenClaim.holds_of_wide 12 f12 rfl rfl rfl rfl rfl rfl rfl ⟨rfl,rfl,rfl,rfl,rfl⟩ rfl rfl rfl rfl rfl tn func12 tp uN uL
  (λos started H enc _=>rq os started H enc)
set_option maxHeartbeats 0 in
theorem topOutputs_holds:Rows.TopOutputsCardSaid:=
 Claim7.holds_tied_plain_at .later [] [.data] true Rows.topOutputsCard.stood.harness false
  uM (λ_ h=>by cases h) Wq4 (λ_ h=>by cases h) topOutputs_row_tie rfl ⟨rfl,rfl⟩ Wq4 rfl
  (λf fn hf hfn=>by
   obtain rfl:f=12:=ax ((show prog.funcNamed "innkeeper/innkeepertop.TopOutputs" =some 12 by as_aux_lemma=>kernel_rfl).symm.trans hf)|>.symm
   obtain rfl:fn=f12:=(ax (func12.symm.trans hfn)).symm;exact⟨by as_aux_lemma=>kernel_rfl,λj t ht=>by
    have hm:t∈f12.params.toList:=by simpa using Array.mem_of_getElem? ht
    have hall:(f12.params.toList.all λu=> !prog.wantsStandIn u)=true:=by as_aux_lemma=>kernel_rfl
    exact(show prog.wantsStandIn t=false by simpa using aY.1 hall t hm)⟩)
  Wq4
#print axioms topOutputs_holds
end Go.Proofs.YtbkgmdgackknfaaGreatDoor
