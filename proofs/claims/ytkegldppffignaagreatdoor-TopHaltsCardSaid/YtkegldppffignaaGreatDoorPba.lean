/- Lemmas. -/
import Derived.Test.YtkegldppffignaaGreatDoorPaa
import Derived.Test.YtkegldppffignaaGreatDoorPab
import Derived.Test.YtkegldppffignaaGreatDoorPas
import Derived.Test.YtkegldppffignaaGreatDoorPay
import Derived.Test.YtkegldppffignaaGreatDoorPaz
set_option linter.unusedSimpArgs false
set_option linter.unusedVariables false
set_option maxRecDepth 100000
set_option maxHeartbeats 4000000
namespace Go.Ink
open Go.RowKit
theorem rG(x:Int):IntKind.u8.wrap x=x%256:=by simp[IntKind.wrap,IntKind.bits,IntKind.signed]
theorem Iv{n:Int}(hn:0<=n):zi n 0=n%256/\zi n 1=n/256%256/\zi n 2=n/65536%256/\zi n 3=n/16777216%256:=by
 refine⟨?_,?_,?_,?_⟩<;>unfold zi<;>rw[rG]
 .rw[show(2:Int)^(min (Int.toNat ((8*0:Nat):Int)) IntKind.u32.bits)=1 from rfl,bl _ Wq5,Int.ediv_one]
 .rw[show(2:Int)^(min (Int.toNat ((8*1:Nat):Int)) IntKind.u32.bits)=256 from rfl,bl _ Wq5]
 .rw[show(2:Int)^(min (Int.toNat ((8*2:Nat):Int)) IntKind.u32.bits)=65536 from rfl,bl _ Wq5]
 rw[show(2:Int)^(min (Int.toNat ((8*3:Nat):Int)) IntKind.u32.bits)=16777216 from rfl,bl _ Wq5]
end Go.Ink
namespace Go.Proofs.YtkegldppffignaaGreatDoor
open Go.RowKit Go.Ink Go.Proofs.Tryz
attribute [local irreducible] OpY bS
end Go.Proofs.YtkegldppffignaaGreatDoor
namespace Go.Ink
open Go.RowKit
theorem Et{n:Nat}{s:St}{op nn:Int}{U:Mmu}{d:Dev}(hr:s.right=true)(hc:eH s op nn=0):mq n s op nn U d=(rC s (hH n s op nn ⟨U.m.calm,U.t⟩ d),(hH n s op nn ⟨U.m.calm,U.t⟩ d).u,(hH n s op nn ⟨U.m.calm,U.t⟩ d).d):=by
 unfold mq;rw[hr,hc]
 rfl
abbrev w1(c:Int):Int:=IntKind.u64.wrap (c+1)
abbrev w3(c:Int):Int:=w1 (w1 (w1 c))
abbrev Cfg:=St×Mmu×Dev
structure Step(n:Nat)(q q':Cfg):Prop where
 right:q.1.right=true
 pg:q.1.MU=false
 ie:q.1.ie=false
 tm:q.2.2.timer=0
 pc0:0<=q.1.pc
 go:∃op nn sz r,cZ n q.2.1.m q.1.pc.toNat=some ((op,nn),sz)/\mq n q.1 op nn q.2.1 q.2.2=(r,q'.2.1,q'.2.2)/\r.s=q'.1/\(fN op=false->q'.1.pc=(((q.1.pc.toNat+sz)%4294967296:Nat):Int))
theorem Li{n:Nat}{M:Mem}{p:Nat}{x:(Int×Int)×Nat}(h:cZ n M p=some x):p/64<n:=by
 unfold cZ at h;by_cases hd:p/64<n
 .exact hd
 rw[aw hd]at h;cases h
theorem wQ{n MY k sz p:Nat}{s:St}{op nn:Int}{U U':Mmu}{d d':Dev}{r:Res}(hf:cZ n U.m p=some ((op,nn),sz))(hq:mq n s op nn U d=(r,U',d'))(hn:jg op r MY s.pc=true):dZ n MY (k+1) s p U d=dZ n MY k r.s ((p+sz)%4294967296) U' d':=by
 rw[dZ,hf];dsimp only;rw[hq,hn]
 rfl
theorem Step.begins{n:Nat}{q q':Cfg}(h:Step n q q')(hl:q.1.halted=false):dI n q.1 q.2.1 q.2.2=⟨q.1,q.1.pc,true,q.2.1,q.2.2⟩:=by
 obtain⟨s,U,d⟩:=q;obtain⟨h1,h2,h3,h4,h5,op,nn,sz,r,h6, -⟩:=h;dsimp only at h1 h2 h3 h4 h5 h6 hl|-;have ht:d.tick s.count=d:=by
  unfold Dev.tick;rw[h4]
  rfl
 have hto:told s d=s:=by
  unfold told;cases Hj d with
  |none=>rfl
  |some k=>
   dsimp only;rw[h3]
   rfl
 have hlt:=Li h6;have hpl:cP n U s.space s.pc.toNat 1=(((s.pc.toNat:Int),Tr.none),U):=by
  have e:dg n U s.space s.pc.toNat 1=(((s.pc.toNat:Int),Tr.none),U):=by
   unfold dg St.space;rw[h2]
   rfl
  unfold cP;rw[e];dsimp only;rw[ax (show((s.pc.toNat:Nat):Int)<((n*64:Nat):Int) by omega)]
  rfl
 unfold dI;rw[h1,hl,ht,hto];show mf n s U d=_;unfold mf;rw[hpl];dsimp only;rw[show((s.pc.toNat:Nat):Int)=s.pc by omega]
 rfl
section
variable {n:Nat} {T:Nat->Cfg} (hT:∀i,(T i).1.halted=false->Step n (T i) (T (i+1)))
include hT
theorem vl(MY:Nat):∀(k i:Nat),1<=k->(T i).1.halted=false->MY=(T i).1.pc.toNat/64->∃j,i<j/\j<=i+k/\dZ n MY k (T i).1 (T i).1.pc.toNat (T i).2.1 (T i).2.2=T j/\∀l,i<=l->l<j->(T l).1.halted=false
 |0,_,h,_,_=>by omega
 |k+1,i,_,hl,hp=>by
  obtain⟨h1,h2,h3,h4,h5,op,nn,sz,r,h6,h7,h8,h9⟩:=hT i hl;have one:∀l,i<=l->l<i+1->(T l).1.halted=false:=λl a b=>by
   obtain rfl:l=i:=by omega
   exact hl
  have eT:(r.s,(T (i+1)).2.1,(T (i+1)).2.2)=T (i+1):=by rw[h8]
  cases hn:jg op r MY (T i).1.pc with
  |false=>
   refine⟨i+1,by omega,by omega,?_,one⟩;rw[dZ,h6];dsimp only;rw[h7,hn];exact eT
  |true=>
   rw[wQ h6 h7 hn];have hn2:=hn;unfold jg at hn2;have he:fN op=false:=by cases e:fN op with|false=>rfl|true=>rw[e]at hn2;cases hn2
   have hh:r.s.halted=false:=by cases e:r.s.halted with|false=>rfl|true=>(rw[e]at hn2;simp at hn2)
   have hpp:(r.s.pc/64==(T i).1.pc/64)=true:=by
    revert hn2;cases(fN op||r.NN||r.device||r.s.halted||r.MK.contains MY)with
    |true=>intro q;cases q
    |false=>exact λq=>q
   have hpc:=h9 he;rw[h8]at hh hpp|-;have hto:(T (i+1)).1.pc.toNat=((T i).1.pc.toNat+sz)%4294967296:=by rw[hpc];exact aP _
   have hpg:MY=(T (i+1)).1.pc.toNat/64:=by
    have e:=kk hpp;rw[hp];omega
   rw[<-hto];cases k with
   |zero=>exact⟨i+1,by omega,by omega,rfl,one⟩
   |succ k=>
    obtain⟨j,j1,j2,j3,j4⟩:=vl MY (k+1) (i+1) Wq1 hh hpg;refine⟨j,by omega,by omega,j3,λl a b=>?_⟩;by_cases e:l=i
    .rw[e];exact hl
    exact j4 l Wq1 b
theorem Bl{i:Nat}(hl:(T i).1.halted=false):∃j,i<j/\j<=i+8/\cT n (T i).1 (T i).2.1 (T i).2.2=T j/\∀l,i<=l->l<j->(T l).1.halted=false:=by
 unfold cT;rw[(hT i hl).begins hl];exact vl hT _ 8 i Wq1 hl rfl
theorem sO{c0:Nat}(hc:∀i,(∀l,l<i->(T l).1.halted=false)->(T i).1.count=IntKind.u64.wrap ((c0+i:Nat):Int)){m:Int}{a:Nat}(hm:m<=1000000):∀(f i:Nat),(∀l,l<i->(T l).1.halted=false)->a<=i->i<=a+1000008->m<=((i - a:Nat):Int)+f->
  ∃j,i<=j/\kK n m (IntKind.u64.wrap ((c0+a:Nat):Int)) f (T i)=T j/\(∀l,l<j->(T l).1.halted=false)/\((T j).1.halted=true\/m<=((j - a:Nat):Int))/\(j=i\/((j:Int)<a+m+8))
 |0,i,hl,h1,h2,h3=>⟨i,aM _,rfl,hl,.inr Wq1,.inl rfl⟩
 |f+1,i,hl,h1,h2,h3=>by
  have hci:=hc i hl;cases hrc:eL m (IntKind.u64.wrap ((c0+a:Nat):Int)) (T i).1 with
  |false=>
   refine⟨i,aM _,jn (q:=T i) hrc,hl,?_,.inl rfl⟩;unfold eL at hrc;cases hh:(T i).1.halted with
   |true=>exact .inl rfl
   |false=>
    right;simp only[hh,hci,aQ]at hrc;by_cases e:0<m
    .rw[ax e]at hrc;simp only[Bool.true_and,Bool.not_false,ah]at hrc;omega
    omega
  |true=>
   rw[po (q:=T i) hrc];unfold eL at hrc;simp only[aL,aj,Bool.not_eq_true']at hrc;obtain⟨⟨e1,e2⟩,e3⟩:=hrc;simp only[hci,aQ]at e3;obtain⟨j,j1,j2,j3,j4⟩:=Bl hT e2;rw[j3];have hlj:∀l,l<j->(T l).1.halted=false:=λl hh=>by
    by_cases e:l<i
    .exact hl l e
    exact j4 l Wq1 hh
   have e4:((i - a:Nat):Int)<m:=by omega
   by_cases hja:m<=((j - a:Nat):Int)
   .have hcj:=hc j hlj;refine⟨j,by omega,jn (q:=T j) ?_,hlj,.inr hja,.inr Wq1⟩;unfold eL;simp only[hcj,aQ];rw[aw (show¬(((c0+j:Nat):Int)%18446744073709551616 - ((c0+a:Nat):Int)%18446744073709551616)%18446744073709551616<m by omega),Bool.and_false]
   obtain⟨x,x1,x2,x3,x4,x5⟩:=sO (m:=m) (a:=a) hc hm f j hlj Wq1 Wq1 Wq1;exact⟨x,by omega,x2,x3,x4,by rcases x5 with x5|x5<;>omega⟩
theorem sM{c0:Nat}(hc:∀i,(∀l,l<i->(T l).1.halted=false)->(T i).1.count=IntKind.u64.wrap ((c0+i:Nat):Int)){m:Int}(hm:m<=1000000){a:Nat}(hl:∀l,l<a->(T l).1.halted=false):
  ∃j,a<=j/\eW n m (T a).1 (T a).2.1 (T a).2.2=T j/\(∀l,l<j->(T l).1.halted=false)/\((T j).1.halted=true\/m<=((j - a:Nat):Int))/\(j=a\/((j:Int)<a+m+8)):=by
 have h:=sO hT hc (m:=m) (a:=a) hm m.toNat a hl (aM _) Wq1 Wq1;unfold eW;rw[hc a hl];exact h
end
structure LY(op nn:Int):Prop where
 o:0<=op/\op<=255
 n0:0<=nn
 sz:(cA op=1/\nn=0)\/(cA op=2/\nn<=255)\/(cA op=5/\nn<=4294967295)
theorem Ey{op nn:Int}(h:LY op nn)(X:List Int):dw (gP op nn++X)=some ((op,nn),(gP op nn).length):=by
 have hw:IntKind.u8.wrap op=op:=by rw[rG];have:=h.o;omega
 have h0:=h.n0;rcases h.sz with⟨e,rfl⟩|⟨e,h1⟩|⟨e,h1⟩
 .unfold gP kH;rw[hw,e];show dw (op::X)=some ((op,0),1);unfold dw;dsimp only;rw[e];rw[aw (show¬((X.length:Int)+1<1) by omega)]
  rfl
 .unfold gP kH;rw[hw,e];show dw (op::zi nn 0::X)=some ((op,nn),2);unfold dw;dsimp only;rw[e];rw[ak,aw (show¬(((X.length+1:Nat):Int)+1<2) by omega),(Iv h0).1];show some ((op,nn%256+256*0),2)=_;rw[show nn%256+256*0=nn by omega]
 unfold gP kH;rw[hw,e];obtain⟨e0,e1,e2,e3⟩:=Iv h0;show dw (op::zi nn 0::zi nn 1::zi nn 2::zi nn 3::X)=some ((op,nn),5);unfold dw;dsimp only;rw[e];simp only[ak];rw[aw (show¬(((X.length+1+1+1+1:Nat):Int)+1<5) by omega),e0,e1,e2,e3];show some ((op,nn%256+256*(nn/256%256+256*(nn/65536%256+256*(nn/16777216%256+256*0)))),5)=_;rw[show nn%256+256*(nn/256%256+256*(nn/65536%256+256*(nn/16777216%256+256*0)))=nn by omega]
theorem xy{n:Nat}{M:Mem}{p:Nat}{op nn:Int}{pre post:List Int}(h:LY op nn)(hd:M.data=pre++(gP op nn++post))(hp:pre.length=p)(hn:p/64<n)(hz:p%64+(gP op nn).length<=64):
  cZ n M p=some ((op,nn),(gP op nn).length):=by
 unfold cZ;rw[ax hn,ac,hd];have e:(((pre++(gP op nn++post)).drop (p/64*64)).take 64).drop (p%64)=gP op nn++post.take (64 - p%64 - (gP op nn).length):=by
  rw[List.drop_take,List.drop_drop,show p/64*64+p%64=p by omega,List.drop_append_of_le_length Wq1,<-hp,List.drop_length,aO,List.take_append,List.take_of_length_le Wq1]
 rw[e];exact Ey h _
theorem lG{n:Nat}{M:Mem}{l:List (Int×Int)}{post:List Int}(hd:M.data=eG l++post){i:Nat}{op nn:Int}(hi:l[i]? =some (op,nn))(h:LY op nn)(hn:(fD l i).length/64<n)(hz:(fD l i).length%64+(gP op nn).length<=64):
  cZ n M (fD l i).length=some ((op,nn),(gP op nn).length):=by
 have hil:=(au.1 hi).1;have e:eG l=fD l i++(gP op nn++(l.drop (i+1)).flatMap λi=>gP i.1 i.2):=by
  have e1:eG l=l.flatMap λi=>gP i.1 i.2:=by unfold eG fD;rw[bn]
  have e2:l=l.take i++(op,nn)::l.drop (i+1):=by
   have e3:l[i]=(op,nn):=(au.1 hi).2;rw[<-e3,List.getElem_cons_drop,List.take_append_drop]
  rw[e1]
  conv=>lhs;rw[e2]
  rw[List.flatMap_append,List.flatMap_cons]
  rfl
 exact xy (pre:=fD l i) (post:=((l.drop (i+1)).flatMap λi=>gP i.1 i.2)++post) h (by rw[hd,e,ap,ap]) rfl hn hz
def SS(pc:Int)(d:List Int)(fl c:Int):St:={St.new with pc:=pc,d:=d,flags:=fl,count:=c}
theorem dQ{pc fl c:Int}{d:List Int}(hd:d.length<=16)(hf:fl<=15):(SS pc d fl c).right=true:=by
 have e:St.new.r.length=0:=rfl;unfold St.right SS;simp;omega
theorem Aa{pc fl c:Int}{d:List Int}{q:(Nat×Nat)×(Nat×Nat)}(h1:q.1.1<=d.length)(h2:d.length - q.1.1+q.1.2<=16)(h3:q.2=(0,0)):iM (SS pc d fl c) q=0:=by
 obtain⟨⟨a,b⟩,e⟩:=q;subst h3;unfold iM SS;dsimp only at h1 h2|-;rw[aw (show¬((d.length:Int)<(a:Int)) by omega),aw (show¬(16<(d.length:Int) - (a:Int)+(b:Int)) by omega)]
 rfl
theorem ss_lit1(n:Nat){pc v fl c:Int}{d:List Int}(U:Mmu)(dv:Dev):(rC (SS pc d fl c) (hH n (SS pc d fl c) 2 v ⟨U.m.calm,U.t⟩ dv),(hH n (SS pc d fl c) 2 v ⟨U.m.calm,U.t⟩ dv).u,(hH n (SS pc d fl c) 2 v ⟨U.m.calm,U.t⟩ dv).d)=(⟨SS (IntKind.u32.wrap (pc+5)) (d++[v]) fl (w1 c),false,false,[]⟩,⟨U.m.calm,U.t⟩,dv):=by kernel_rfl
theorem sE(n:Nat){pc v fl c:Int}{d:List Int}(U:Mmu)(dv:Dev)(hd:d.length<16)(hf:fl<=15):mq n (SS pc d fl c) 2 v U dv=(⟨SS (IntKind.u32.wrap (pc+5)) (d++[v]) fl (w1 c),false,false,[]⟩,⟨U.m.calm,U.t⟩,dv):=by
 have hc:eH (SS pc d fl c) 2 v=0:=(show eH (SS pc d fl c) 2 v=iM (SS pc d fl c) ((0,1),(0,0)) by kernel_rfl).trans (Aa (aq _) (by dsimp only;omega) rfl);rw[Et (dQ Wq1 hf) hc];exact ss_lit1 n U dv
theorem ss_add(n:Nat){pc a b fl c:Int}(U:Mmu)(dv:Dev)(hf:fl<=15):mq n (SS pc [a,b] fl c) 16 0 U dv=(⟨SS (IntKind.u32.wrap (pc+1)) [IntKind.u32.wrap (a+b)] (lE a b) (w1 c),false,false,[]⟩,⟨U.m.calm,U.t⟩,dv):=by
 rw[Et (dQ cE hf) (by kernel_rfl)]
 kernel_rfl
theorem ss_st1{pc fl c:Int}{v:Nat}(U:Mmu)(dv:Dev):(rC (SS pc [(v:Int),1000] fl c) (hH 16 (SS pc [(v:Int),1000] fl c) 49 0 ⟨U.m.calm,U.t⟩ dv),(hH 16 (SS pc [(v:Int),1000] fl c) 49 0 ⟨U.m.calm,U.t⟩ dv).u,(hH 16 (SS pc [(v:Int),1000] fl c) 49 0 ⟨U.m.calm,U.t⟩ dv).d)=(⟨SS (IntKind.u32.wrap (pc+1)) [] fl (w1 c),false,false,ik (U.m.calm.Nl 1000 v).MS 64⟩,⟨U.m.calm.Nl 1000 v,U.t⟩,dv):=by kernel_rfl
theorem ss_st{pc fl c:Int}{v:Nat}(U:Mmu)(dv:Dev)(hf:fl<=15):mq 16 (SS pc [(v:Int),1000] fl c) 49 0 U dv=(⟨SS (IntKind.u32.wrap (pc+1)) [] fl (w1 c),false,false,ik (U.m.calm.Nl 1000 v).MS 64⟩,⟨U.m.calm.Nl 1000 v,U.t⟩,dv):=by
 rw[Et (dQ cE hf) (by kernel_rfl)];exact ss_st1 U dv
theorem JU(n:Nat){pc fl c:Int}{d:List Int}(U:Mmu)(dv:Dev):(rC (SS pc d fl c) (hH n (SS pc d fl c) 69 0 ⟨U.m.calm,U.t⟩ dv),(hH n (SS pc d fl c) 69 0 ⟨U.m.calm,U.t⟩ dv).u,(hH n (SS pc d fl c) 69 0 ⟨U.m.calm,U.t⟩ dv).d)=(⟨{SS (IntKind.u32.wrap (pc+1)) d fl (w1 c)with halted:=true},false,false,[]⟩,⟨U.m.calm,U.t⟩,dv):=by kernel_rfl
theorem FZ(n:Nat){pc fl c:Int}{d:List Int}(U:Mmu)(dv:Dev)(hd:d.length<=16)(hf:fl<=15):mq n (SS pc d fl c) 69 0 U dv=(⟨{SS (IntKind.u32.wrap (pc+1)) d fl (w1 c)with halted:=true},false,false,[]⟩,⟨U.m.calm,U.t⟩,dv):=by
 have hc:eH (SS pc d fl c) 69 0=0:=(show eH (SS pc d fl c) 69 0=iM (SS pc d fl c) ((0,0),(0,0)) by kernel_rfl).trans (Aa (aq _) (by dsimp only;omega) rfl);rw[Et (dQ hd hf) hc];exact JU n U dv
section
variable {dv:Dev}
theorem qs{p z:Nat}(h:p+z<=1000):IntKind.u32.wrap ((p:Int)+(z:Int))=((p+z:Nat):Int)/\(((p:Int).toNat+z)%4294967296:Nat)=p+z:=by
 refine⟨by rw[u32_wrap_id _ Wq1 Wq1];omega,by rw[aP];omega⟩
theorem sr{c:Nat}(h:c<=1000):w1 (c:Int)=((c+1:Nat):Int):=by
 show IntKind.u64.wrap ((c:Int)+1)=_;rw[aQ];omega
theorem qd{n p z c:Nat}{d:List Int}{fl op nn:Int}{U U':Mmu}{pg:List Int}{s':St}(hd:d.length<=16)(hf:fl<=15)(ht:dv.timer=0)(hpz:p+z<=1000)(hfe:cZ n U.m p=some ((op,nn),z))
  (hdo:mq n (SS p d fl c) op nn U dv=(⟨s',false,false,pg⟩,U',dv)) (he:fN op=false->s'.pc=((p+z:Nat):Int)):Step n (SS p d fl c,U,dv) (s',U',dv):=
 ⟨dQ hd hf,rfl,rfl,ht,Int.natCast_nonneg p,op,nn,z,_,by show cZ n U.m ((p:Int)).toNat=_;rw[aP];exact hfe,hdo,rfl,λh=>by
  show s'.pc=(((p:Int).toNat+z)%4294967296:Nat);rw[(qs hpz).2];exact he h⟩
end
abbrev jY:List Bool:=List.replicate 64 false
theorem oQ(c:Nat):w1 (IntKind.u64.wrap (c:Int))=IntKind.u64.wrap ((c+1:Nat):Int):=by
 show IntKind.u64.wrap (IntKind.u64.wrap (c:Int)+1)=_;simp only[aQ];omega
end Go.Ink
