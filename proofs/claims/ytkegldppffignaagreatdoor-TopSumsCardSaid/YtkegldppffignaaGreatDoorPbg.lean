/- For every input the law TopSums answers true and leaves every argument as it was; the table of math/bits is what the program's text lays (the card ties it); no other condition. -/
import Derived.Test.YtkegldppffignaaGreatDoorPaa
import Derived.Test.YtkegldppffignaaGreatDoorPab
import Derived.Test.YtkegldppffignaaGreatDoorPac
import Derived.Test.YtkegldppffignaaGreatDoorPba
import Derived.Test.YtkegldppffignaaGreatDoorPbb
import Derived.Test.YtkegldppffignaaGreatDoorRows
import Derived.JoinedOf
import Derived.Test.YtkegldppffignaaGreatDoorCards
import Derived.Test.YtkegldppffignaaGreatDoorTie
import Derived.SevenTiedAt
set_option linter.unusedSimpArgs false
set_option linter.unusedVariables false
set_option maxRecDepth 100000
set_option maxHeartbeats 4000000
namespace Go.Ink
open Go.RowKit
def yz(l:List Int):List (Int×Int):=l.flatMap λv=>[(2,v),(16,0)]
def kg(l:List Int):List (Int×Int):=(2,0)::(yz l++[(2,1000),(49,0),(69,0)])
theorem px:∀l:List Int,(yz l).length=2*l.length
 |[]=>rfl
 |v::l=>by
  have:=px l;unfold yz at this|-;rw[List.flatMap_cons,ae,this,ak];simp;omega
theorem GB:∀{l:List Int} {j:Nat} {v:Int},l[j]? =some v->(yz l)[2*j]? =some (2,v)/\(yz l)[2*j+1]? =some (16,0)
 |x::l,0,v,h=>by
  obtain rfl:x=v:=ay h;exact de
 |x::l,j+1,v,h=>by
  obtain⟨h1,h2⟩:=GB (l:=l) (j:=j) (v:=v) h;exact⟨h1,h2⟩
section
variable {l:List Int}
theorem wF{j:Nat}{v:Int}(h:l[j]? =some v):(kg l)[1+2*j]? =some (2,v)/\(kg l)[2+2*j]? =some (16,0):=by
 obtain⟨h1,h2⟩:=GB h;have hl:=px l;have hj:=(au.1 h).1;unfold kg;rw[show 1+2*j=2*j+1 by omega,show 2+2*j=2*j+1+1 by omega,List.getElem?_cons_succ,List.getElem?_cons_succ,bG Wq1,bG Wq1];exact⟨h1,h2⟩
theorem o9(l:List Int):(kg l)[1+2*l.length]? =some (2,1000)/\(kg l)[2+2*l.length]? =some (49,0)/\(kg l)[3+2*l.length]? =some (69,0):=by
 have hl:=px l;unfold kg;rw[show 1+2*l.length=2*l.length+1 by omega,show 2+2*l.length=2*l.length+1+1 by omega,show 3+2*l.length=2*l.length+2+1 by omega,List.getElem?_cons_succ,List.getElem?_cons_succ,List.getElem?_cons_succ,bC Wq1,bC Wq1,bC Wq1,hl,Nat.sub_self,show 2*l.length+1 - 2*l.length=1 by omega,show 2*l.length+2 - 2*l.length=2 by omega];exact⟨rfl,rfl,rfl⟩
theorem rU:∀{j:Nat},j<=l.length->(fD (kg l) (1+2*j)).length=5+6*j
 |0,_=>rfl
 |j+1,h=>by
  obtain⟨h1,h2⟩:=wF (ai (show j<l.length by omega));have ih:=rU (j:=j) Wq1;rw[show 1+2*(j+1)=(1+2*j)+1+1 by omega,gZ (show(kg l)[1+2*j+1]? =some (16,0) by rw[show 1+2*j+1=2+2*j by omega];exact h2),gZ h1,ae,ae,ih];show 5+6*j+5+1=_;omega
theorem AE{j:Nat}(h:j<l.length):(fD (kg l) (2+2*j)).length=10+6*j:=by
 rw[show 2+2*j=1+2*j+1 by omega,gZ (wF (ai h)).1,ae,rU Wq1];show 5+6*j+5=_;omega
theorem B5(l:List Int):(fD (kg l) (2+2*l.length)).length=10+6*l.length:=by
 rw[show 2+2*l.length=1+2*l.length+1 by omega,gZ (o9 l).1,ae,rU (aM _)];show 5+6*l.length+5=_;omega
theorem xd(l:List Int):(fD (kg l) (3+2*l.length)).length=11+6*l.length:=by
 rw[show 3+2*l.length=2+2*l.length+1 by omega,gZ (o9 l).2.1,ae,B5];show 10+6*l.length+1=_;omega
def rJ(l:List Int)(j:Nat):Int:=(l.take j).foldl (λa v=>IntKind.u32.wrap (a+v)) 0
def flN(l:List Int):Nat->Int
 |0=>0
 |j+1=>lE (rJ l j) (l.getD j 0)
theorem sC{j:Nat}{v:Int}(h:l[j]? =some v):rJ l (j+1)=IntKind.u32.wrap (rJ l j+v):=by
 unfold rJ;rw[List.take_add_one,h,List.foldl_append]
 rfl
theorem wH:∀j:Nat,0<=rJ l j/\rJ l j<=4294967295
 |0=>by unfold rJ;simp
 |j+1=>by
  cases h:l[j]? with
  |none=>
   unfold rJ;rw[List.take_add_one,h,Option.toList_none,az];exact wH j
  |some v=>rw[sC h];exact gJ _
theorem lh:∀j:Nat,flN l j<=15
 |0=>by show(0:Int)<=15;decide
 |j+1=>(lD (rJ l j) (l.getD j 0) 0 _ _ _).2
abbrev sumD(l:List Int):List Int:=eG (kg l)++List.replicate (1024 - (eG (kg l)).length) 0
abbrev sD(l:List Int):Mmu:=⟨⟨sumD l,List.replicate 64 false⟩,dz⟩
abbrev sumV(l:List Int):Nat:=(rJ l l.length).toNat
abbrev sumW(l:List Int):Mmu:=⟨(sD l).m.Nl 1000 (sumV l),dz⟩
def p7(l:List Int)(U0:Mmu)(dv:Dev)(i:Nat):Cfg:=
 if i=0 then(St.new,U0,dv)else
 if i=2+2*l.length then(SS (10+6*l.length:Nat) [(sumV l:Int),1000] (flN l l.length) i,sD l,dv)else
 if i=3+2*l.length then(SS (11+6*l.length:Nat) [] (flN l l.length) i,sumW l,dv)else
 if 4+2*l.length<=i then({SS (12+6*l.length:Nat) [] (flN l l.length) (4+2*l.length:Nat)with halted:=true},⟨(sumW l).m.calm,dz⟩,dv)else
 if i%2=1 then(SS (5+6*((i - 1)/2):Nat) [rJ l ((i - 1)/2)] (flN l ((i - 1)/2)) i,sD l,dv)else
 (SS (10+6*((i - 2)/2):Nat) [rJ l ((i - 2)/2),l.getD ((i - 2)/2) 0] (flN l ((i - 2)/2)) i,sD l,dv)
variable {U0:Mmu} {dv:Dev}
theorem pe{j:Nat}(h:j<=l.length):p7 l U0 dv (1+2*j)=(SS (5+6*j:Nat) [rJ l j] (flN l j) (1+2*j:Nat),sD l,dv):=by
 unfold p7;rw[if_neg Wq1,if_neg Wq1,if_neg Wq1,if_neg Wq1,if_pos Wq1,show(1+2*j - 1)/2=j by omega]
theorem rI{j:Nat}(h:j<l.length):p7 l U0 dv (2+2*j)=(SS (10+6*j:Nat) [rJ l j,l.getD j 0] (flN l j) (2+2*j:Nat),sD l,dv):=by
 unfold p7;rw[if_neg Wq1,if_neg Wq1,if_neg Wq1,if_neg Wq1,if_neg Wq1,show(2+2*j - 2)/2=j by omega]
theorem wG:p7 l U0 dv (2+2*l.length)=(SS (10+6*l.length:Nat) [(sumV l:Int),1000] (flN l l.length) (2+2*l.length:Nat),sD l,dv):=by
 unfold p7;rw[if_neg Wq1,if_pos rfl]
theorem pf:p7 l U0 dv (3+2*l.length)=(SS (11+6*l.length:Nat) [] (flN l l.length) (3+2*l.length:Nat),sumW l,dv):=by
 unfold p7;rw[if_neg Wq1,if_neg Wq1,if_pos rfl]
theorem kP{i:Nat}(h:4+2*l.length<=i):p7 l U0 dv i=({SS (12+6*l.length:Nat) [] (flN l l.length) (4+2*l.length:Nat)with halted:=true},⟨(sumW l).m.calm,dz⟩,dv):=by
 unfold p7;rw[if_neg Wq1,if_neg Wq1,if_neg Wq1,if_pos h]
theorem pg5{j:Nat}(h:j<=15):(5+6*j)%64+5<=64:=by
 rcases Nat.lt_or_ge j 10 with q|q
 .rw[Nat.mod_eq_of_lt Wq1];omega
 obtain rfl|rfl|rfl|rfl|rfl|rfl:j=10\/j=11\/j=12\/j=13\/j=14\/j=15:=by omega
 all_goals decide
theorem El{n p:Nat}{M M':Mem}(h:∀x,x/64=p/64->M'.data[x]? =M.data[x]?):cZ n M' p=cZ n M p:=by
 unfold cZ;have e:(M'.data.drop (p/64*64)).take 64=(M.data.drop (p/64*64)).take 64:=by
  apply List.ext_getElem?;intro i;rw[List.getElem?_take,List.getElem?_take];split
  .rw[List.getElem?_drop,List.getElem?_drop];exact h _ Wq1
  rfl
 rw[e]
theorem Kg{M:Mem}{a x:Nat}{v:Int}(h:x<a):(M.Nl a v).data[x]? =M.data[x]? :=by
 show((((M.data.set (a+0) _).set (a+1) _).set (a+2) _).set (a+3) _)[x]? =_;rw[aX Wq1,aX Wq1,aX Wq1,aX Wq1]
theorem JP(hl:l.length<=15)(hv:∀v,v∈l->0<=v/\v<=4294967295)(hU:U0.m.data=sumD l)(hUt:U0.t=dz)(ht:dv.timer=0):∀i,(p7 l U0 dv i).1.halted=false->Step 16 (p7 l U0 dv i) (p7 l U0 dv (i+1)):=λi hh=>by
 have hb:∀{o:Nat} {op nn:Int},op=2/\0<=nn/\nn<=4294967295\/(op=16\/op=49\/op=69)/\nn=0->LY op nn:=λh=>by
  rcases h with⟨rfl,h1,h2⟩|⟨rfl|rfl|rfl,rfl⟩
  .exact⟨by decide,h1,.inr (.inr ⟨rfl,h2⟩)⟩
  .exact⟨by decide,Int.le_refl _,.inl ⟨rfl,rfl⟩⟩
  .exact⟨by decide,Int.le_refl _,.inl ⟨rfl,rfl⟩⟩
  exact⟨by decide,Int.le_refl _,.inl ⟨rfl,rfl⟩⟩
 by_cases h0:i=0
 .subst h0;have hf:cZ 16 U0.m 0=some ((2,0),5):=lG (n:=16) (l:=kg l) (i:=0) hU rfl (hb (o:=0) (.inl ⟨rfl,by decide,by decide⟩)) (by show 0/64<16;decide) (by show 0%64+5<=64;decide);have hq:=sE 16 (pc:=((0:Nat):Int)) (v:=0) (fl:=0) (c:=((0:Nat):Int)) (d:=[]) U0 dv cE Wq5;have e1:p7 l U0 dv (0+1)=(SS (5+6*0:Nat) [rJ l 0] (flN l 0) (1+2*0:Nat),sD l,dv):=pe (aq _);have e0:p7 l U0 dv 0=(SS ((0:Nat):Int) [] 0 ((0:Nat):Int),U0,dv):=rfl;rw[e0,e1];refine qd (pg:=[]) cE Wq5 ht Wq5 hf ?_ Zrf;rw[hq];show _=(Prod.mk _ (Prod.mk (Mmu.mk (Mem.mk (sumD l) _) dz) dv));rw[<-hU,<-hUt]
  rfl
 by_cases h4:4+2*l.length<=i
 .rw[kP h4]at hh;cases hh
 rcases Nat.mod_two_eq_zero_or_one i with he|ho
 .obtain⟨j,rfl⟩:∃j,i=2+2*j:=⟨(i - 2)/2,by omega⟩;by_cases hj:j=l.length
  .subst hj;rw[wG,show 2+2*l.length+1=3+2*l.length by omega,pf];have hf:cZ 16 (sD l).m (10+6*l.length)=some ((49,0),1):=by
    have h:=lG (n:=16) (M:=(sD l).m) (l:=kg l) (i:=2+2*l.length) rfl (o9 l).2.1 (hb (o:=0) (.inr ⟨.inr (.inl rfl),rfl⟩)) (by rw[B5];omega) (by rw[B5];show _+1<=64;omega);rw[B5]at h;exact h
   have hq:=ss_st (pc:=((10+6*l.length:Nat):Int)) (fl:=flN l l.length) (c:=((2+2*l.length:Nat):Int)) (v:=sumV l) (sD l) dv (lh _);rw[show IntKind.u32.wrap (((10+6*l.length:Nat):Int)+1)=((11+6*l.length:Nat):Int) by have:=(qs (p:=10+6*l.length) (z:=1) Wq1).1;rw[show 11+6*l.length=10+6*l.length+1 by omega];exact this,sr Wq1,show 2+2*l.length+1=3+2*l.length by omega]at hq;exact qd cE (lh _) ht Wq1 hf hq (λ_=>by show((11+6*l.length:Nat):Int)=_;omega)
  have hjl:j<l.length:=by omega
  have hx:=ai hjl;obtain⟨v,hvx⟩:=Zgn (l[j]);rw[hvx]at hx;rw[rI hjl,show 2+2*j+1=1+2*(j+1) by omega,pe Wq1];have hf:cZ 16 (sD l).m (10+6*j)=some ((16,0),1):=by
   have h:=lG (n:=16) (M:=(sD l).m) (l:=kg l) (i:=2+2*j) rfl (wF hx).2 (hb (o:=0) (.inr ⟨.inl rfl,rfl⟩)) (by rw[AE hjl];omega) (by rw[AE hjl];show _+1<=64;omega);rw[AE hjl]at h;exact h
  have hq:=ss_add 16 (pc:=((10+6*j:Nat):Int)) (fl:=flN l j) (c:=((2+2*j:Nat):Int)) (a:=rJ l j) (b:=l.getD j 0) (sD l) dv (lh _);have hgd:l.getD j 0=v:=by rw[aF,hx];rfl
  rw[show IntKind.u32.wrap (((10+6*j:Nat):Int)+1)=((5+6*(j+1):Nat):Int) by have:=(qs (p:=10+6*j) (z:=1) Wq1).1;rw[show 5+6*(j+1)=10+6*j+1 by omega];exact this,sr Wq1,show 2+2*j+1=1+2*(j+1) by omega]at hq;refine qd (pg:=[]) cE (lh _) ht Wq1 hf (hq.trans ?_) (λ_=>by show((5+6*(j+1):Nat):Int)=_;omega);rw[sC hx,<-hgd]
  rfl
 obtain⟨j,rfl⟩:∃j,i=1+2*j:=⟨(i - 1)/2,by omega⟩;by_cases hj:j=l.length+1
 .subst hj;rw[show 1+2*(l.length+1)=3+2*l.length by omega,pf,kP Wq1];have hf:cZ 16 (sumW l).m (11+6*l.length)=some ((69,0),1):=by
   have h:=lG (n:=16) (M:=(sD l).m) (l:=kg l) (i:=3+2*l.length) rfl (o9 l).2.2 (hb (o:=0) (.inr ⟨.inr (.inr rfl),rfl⟩)) (by rw[xd];omega) (by rw[xd];show _+1<=64;omega);rw[xd]at h;refine(El λx hx=>?_).trans h;exact Kg Wq1
  have hq:=FZ 16 (pc:=((11+6*l.length:Nat):Int)) (fl:=flN l l.length) (c:=((3+2*l.length:Nat):Int)) (d:=[]) (sumW l) dv cE (lh _);rw[show IntKind.u32.wrap (((11+6*l.length:Nat):Int)+1)=((12+6*l.length:Nat):Int) by have:=(qs (p:=11+6*l.length) (z:=1) Wq1).1;rw[show 12+6*l.length=11+6*l.length+1 by omega];exact this,sr Wq1,show 3+2*l.length+1=4+2*l.length by omega]at hq;exact qd cE (lh _) ht Wq1 hf hq (λh=>by cases h)
 have hjl:j<=l.length:=by omega
 rw[pe hjl];have ho5:=rU hjl;by_cases hj2:j=l.length
 .subst hj2;rw[show 1+2*l.length+1=2+2*l.length by omega,wG];have hf:cZ 16 (sD l).m (5+6*l.length)=some ((2,1000),5):=by
   have h:=lG (n:=16) (M:=(sD l).m) (l:=kg l) (i:=1+2*l.length) rfl (o9 l).1 (hb (o:=0) (.inl ⟨rfl,by decide,by decide⟩)) (by rw[ho5];omega) (by rw[ho5];show _+5<=64;exact pg5 Wq1);rw[ho5]at h;exact h
  have hq:=sE 16 (pc:=((5+6*l.length:Nat):Int)) (v:=1000) (fl:=flN l l.length) (c:=((1+2*l.length:Nat):Int)) (d:=[rJ l l.length]) (sD l) dv cE (lh _);rw[show IntKind.u32.wrap (((5+6*l.length:Nat):Int)+5)=((10+6*l.length:Nat):Int) by have:=(qs (p:=5+6*l.length) (z:=5) Wq1).1;rw[show 10+6*l.length=5+6*l.length+5 by omega];exact this,sr Wq1,show 1+2*l.length+1=2+2*l.length by omega]at hq;refine qd (pg:=[]) cE (lh _) ht Wq1 hf (hq.trans ?_) (λ_=>by show((10+6*l.length:Nat):Int)=_;omega);rw[show((sumV l:Nat):Int)=rJ l l.length from Int.toNat_of_nonneg (wH _).1]
  rfl
 have hjl2:j<l.length:=by omega
 have hx:=ai hjl2;obtain⟨v,hvx⟩:=Zgn (l[j]);rw[hvx]at hx;have hgd:l.getD j 0=v:=by rw[aF,hx];rfl
 obtain⟨hv0,hv1⟩:=hv v (aD hx);rw[show 1+2*j+1=2+2*j by omega,rI hjl2];have hf:cZ 16 (sD l).m (5+6*j)=some ((2,v),5):=by
  have h:=lG (n:=16) (M:=(sD l).m) (l:=kg l) (i:=1+2*j) rfl (wF hx).1 (hb (o:=0) (.inl ⟨rfl,hv0,hv1⟩)) (by rw[ho5];omega) (by rw[ho5];show _+5<=64;exact pg5 Wq1);rw[ho5]at h;exact h
 have hq:=sE 16 (pc:=((5+6*j:Nat):Int)) (v:=v) (fl:=flN l j) (c:=((1+2*j:Nat):Int)) (d:=[rJ l j]) (sD l) dv cE (lh _);rw[show IntKind.u32.wrap (((5+6*j:Nat):Int)+5)=((10+6*j:Nat):Int) by have:=(qs (p:=5+6*j) (z:=5) Wq1).1;rw[show 10+6*j=5+6*j+5 by omega];exact this,sr Wq1,show 1+2*j+1=2+2*j by omega]at hq;refine qd (pg:=[]) cE (lh _) ht Wq1 hf (hq.trans ?_) (λ_=>by show((10+6*j:Nat):Int)=_;omega);rw[hgd]
 rfl
theorem xv{d:List Int}{a:Nat}{b:Int}(h:a<d.length):gB (d.set a b) a=b:=by simp[gB,h]
theorem Ei{d:List Int}{a c:Nat}{b:Int}(h:a≠c):gB (d.set a b) c=gB d c:=by
 unfold gB;rw[aF,aF,aX h]
theorem Jl{M:Mem}{a:Nat}{v:Int}(h:a+4<=M.data.length)(hv:u32 v):nU (M.Nl a v).data a=v:=by
 have e:(M.Nl a v).data=(((M.data.set (a+0) (nR v 0)).set (a+1) (nR v 1)).set (a+2) (nR v 2)).set (a+3) (nR v 3):=rfl;obtain⟨v0,v1⟩:=hv;unfold nU;rw[e,Ei Wq1,Ei Wq1,Ei Wq1,Nat.add_zero,xv Wq1,Ei Wq1,Ei Wq1,xv (by simp;omega),Ei Wq1,xv (by simp;omega),xv (by simp;omega)];unfold nR;omega
theorem JO(hl:l.length<=15):nT 16 (sumW l).m.calm 1000=(rJ l l.length,true):=by
 have hc:=jw (kg l) (kg l).length;have hp:=px l;have hlen:(kg l).length=2*l.length+4:=by
  unfold kg;rw[ak,ae,hp]
  rfl
 have hd:(sD l).m.data.length=1024:=by
  show(eG (kg l)++List.replicate (1024 - (eG (kg l)).length) 0).length=_;have:(eG (kg l)).length<=5*(kg l).length:=hc;rw[ae,aI];omega
 have hn:=wH (l:=l) l.length;unfold nT;rw[ax Wq5];show(nU ((sD l).m.Nl 1000 (sumV l)).data 1000,true)=_;have hs:((sumV l:Nat):Int)=rJ l l.length:=Int.toNat_of_nonneg hn.1;rw[Jl Wq1 ⟨by omega,by omega⟩,hs]
theorem wE{i:Nat}(hi:i<4+2*l.length):(p7 l U0 dv i).1.halted=false:=by
 by_cases h0:i=0
 .subst h0;rfl
 rcases Nat.mod_two_eq_zero_or_one i with he|ho
 .obtain⟨j,rfl⟩:∃j,i=2+2*j:=⟨(i - 2)/2,by omega⟩;by_cases hj:j=l.length
  .subst hj;rw[wG];rfl
  rw[rI Wq1];rfl
 obtain⟨j,rfl⟩:∃j,i=1+2*j:=⟨(i - 1)/2,by omega⟩;by_cases hj:j=l.length+1
 .subst hj;rw[show 1+2*(l.length+1)=3+2*l.length by omega,pf];rfl
 rw[pe Wq1];rfl
theorem FS{i:Nat}(hi:i<=4+2*l.length):(p7 l U0 dv i).1.count=(i:Int):=by
 by_cases h0:i=0
 .subst h0;rfl
 by_cases h4:4+2*l.length<=i
 .obtain rfl:i=4+2*l.length:=by omega
  rw[kP h4];rfl
 rcases Nat.mod_two_eq_zero_or_one i with he|ho
 .obtain⟨j,rfl⟩:∃j,i=2+2*j:=⟨(i - 2)/2,by omega⟩;by_cases hj:j=l.length
  .subst hj;rw[wG];rfl
  rw[rI Wq1];rfl
 obtain⟨j,rfl⟩:∃j,i=1+2*j:=⟨(i - 1)/2,by omega⟩;by_cases hj:j=l.length+1
 .subst hj;rw[show 1+2*(l.length+1)=3+2*l.length by omega,pf];rfl
 rw[pe Wq1];rfl
theorem sum_dev(i:Nat):(p7 l U0 dv i).2.2=dv:=by
 unfold p7
 repeat' split
 all_goals rfl
theorem sum_run(hl:l.length<=15)(hv:∀v,v∈l->0<=v/\v<=4294967295)(hU:U0.m.data=sumD l)(hUt:U0.t=dz)(ht:dv.timer=0){a:Nat}(ha:a<=4+2*l.length){m:Nat}(hm:m<=1000000):
  ∃j,a<=j/\j<=4+2*l.length/\eW 16 (m:Int) (p7 l U0 dv a).1 (p7 l U0 dv a).2.1 (p7 l U0 dv a).2.2=p7 l U0 dv j/\(j=4+2*l.length\/a+m<=j):=by
 have cnt:∀i,(∀x,x<i->(p7 l U0 dv x).1.halted=false)->(p7 l U0 dv i).1.count=IntKind.u64.wrap ((0+i:Nat):Int):=λi hi=>by
  by_cases q:i<=4+2*l.length
  .rw[FS q,aQ];omega
  have:=hi (4+2*l.length) Wq1;rw[kP (aM _)]at this;cases this
 obtain⟨j,h1,h2,h3,h4, -⟩:=sM (T:=p7 l U0 dv) (c0:=0) (JP hl hv hU hUt ht) cnt (m:=(m:Int)) Wq1 (a:=a) (λx hx=>wE Wq1);have hj:j<=4+2*l.length:=by
  apply Classical.byContradiction;intro q;have:=h3 (4+2*l.length) Wq1;rw[kP (aM _)]at this;cases this
 refine⟨j,h1,hj,h2,?_⟩;by_cases q:j=4+2*l.length
 .exact .inl q
 rcases h4 with h4|h4
 .rw[wE Wq1]at h4;cases h4
 right;omega
end
end Go.Ink
namespace Go.Proofs.YtkegldppffignaaGreatDoor
open Go.RowKit Go.Ink Go.Proofs.Tryz
attribute [local irreducible] OpY bS
theorem gput_ok(A:Option Addr)(c:Nat)(xs:List Int)(hx:xs.length<=100000)(op nn:Int)(w:World)(hi:Inv w (bM [sl .u8 5 A xs.length c xs]) [sl .u8 5 A xs.length c xs] w):
  Ctr prog 66 [.slice A xs.length c,.agg #[.int .i64 op,.int .u32 nn]] w [sl .u8 5 A xs.length c xs] (λv cs=>∃A' c',v= .slice A' (xs++gP op nn).length c'/\cs=[sl .u8 5 A' (xs++gP op nn).length c' (xs++gP op nn)]):=by
 have hz5:cA op=0\/cA op=1\/cA op=2\/cA op=5:=iL op;have HS:=sJ op;obtain⟨z,hz⟩:∃z:Nat,cA op=z:=ar Wq1;have he:gP op nn=kH op nn (max 1 z):=by unfold gP;rw[hz];rfl
 rw[hz]at hz5 HS;obtain⟨y,hy⟩:∃y,max 1 z=y+1:=⟨max 1 z - 1,by omega⟩;rw[hy]at he;rw[he];refine bN func66 rfl ntmps66 rfl hi ?_;refine Z_2 ?_;refine ZO λb3=>?_;refine Z_8 ?_;refine Zy (ce rfl rfl Zv0 rfl) ?_;refine jO ?_;rintro _ _ ⟨b10,rfl,rfl⟩;refine gj (cD (e:=5) (sz:=1) (bytes:=1) rfl rfl Za rfl rfl (λw hi=>hi.rd (show Has _ (slv 5 1 (some ⟨b10,0,none⟩) 1 1 (ints .u8 [IntKind.u8.wrap op]))from Zh)) cN gS Wq1) rfl ?_;rintro _ _ ⟨A1,c1,rfl,rfl⟩;rw[cj,show xs.length+1=(xs++kH op nn (0+1)).length by rw[ae];rfl,show xs++[IntKind.u8.wrap op]=xs++kH op nn (0+1)from rfl];refine Z_8 ?_;refine ZSe (λw hi=>HS w) ?_;refine Zy (eE (Zv rfl) (Zv rfl) (show _=((z:Int) - 1)from bF _ ⟨by omega,by omega⟩)) ?_;refine Z_4 ?_;refine cq (λq:Nat×Option Addr×Nat=>[(0,.slice q.2.1 (xs++kH op nn (q.1+1)).length q.2.2),(3,.pointer (some ⟨b3,0,none⟩)),(15,.int .i64 ((z:Int) - 1)),(16,.int .i64 (q.1:Int))]) (λq=>[sl .u8 5 q.2.1 (xs++kH op nn (q.1+1)).length q.2.2 (xs++kH op nn (q.1+1)),row b3 [.int .i64 op,.int .u32 nn] 27]) (λq=>q.1<=y) (λq=>10 - q.1) ((⟨0,A1,c1⟩:Nat×Option Addr×Nat)) ?_ ?_ ?_ ?_
 .exact aq _
 .exact Zwk
 .exact Zu
 rintro⟨k,A,c⟩ hk;dsimp only at hk|-;have hsn:(xs++kH op nn (k+1))++[zi nn k]=xs++kH op nn (k+1+1):=(by rw[vK op nn (show 1<=k+1 by omega),ap];rfl);have hsl:(xs++kH op nn (k+1)).length+1=(xs++kH op nn (k+1+1)).length:=(by have e:=congrArg List.length hsn;simp only[ae,ak,ao]at e|-;omega);have hll:(xs++kH op nn (k+1)).length<=100010:=(by rw[ae,tS _ _ Wq1];omega);refine Z_6 ?_;refine ZW ?_ ?_<;>intro hc3
 .simp only[aj]at hc3;refine rj ?_;refine Zy (jk (Zv rfl) (Zv rfl) (show _=((8*k:Nat):Int)from by rw[bF _ ⟨by omega,by omega⟩];omega)) ?_;refine Zy (ko (Zv rfl) (Zv rfl) Wq1 rfl) ?_;refine Zy (ce rfl rfl (Zv rfl) (show _=zi nn k from rfl)) ?_;refine jO ?_;rintro _ _ ⟨b26,rfl,rfl⟩;refine gj (cD (e:=5) (sz:=1) (bytes:=1) rfl rfl Za rfl rfl (λw hi=>hi.rd (show Has _ (slv 5 1 (some ⟨b26,0,none⟩) 1 1 (ints .u8 [zi nn k]))from Zh)) cN gS Wq1) rfl ?_;rintro _ _ ⟨A2,c2,rfl,rfl⟩;rw[cj,hsn,hsl];refine Z_5 ?_;refine Wq8 ?_;refine bX ((⟨k+1,A2,c2⟩:Nat×Option Addr×Nat)) ?_ ?_ ?_
  .exact⟨show k+1<=y by omega,show 10 - (k+1)<10 - k by omega⟩
  .exact Zwk
  exact Zj
 simp only[ah]at hc3;obtain rfl:k=y:=Wq1;refine gR ?_;refine Zrb ([slv _ _ _ _ _ _]) ?_;exact⟨A,c,rfl,rfl⟩
theorem join_ok(A:Option Addr)(c:Nat)(l:List (Int×Int))(hl:l.length<=1000)(hr:∀i,i∈l->fI i.1 i.2=true)(w:World)(h:RdV w 2 A l.length c (l.flatMap dR)):
  Ctr prog 32 [.slice A l.length c] w [] (λv cs=>∃A' c',v= .tuple #[.slice A' (eG l).length c',.int .i64 0]/\cs=[sl .u8 5 A' (eG l).length c' (eG l)]):=by
 refine bN func32 rfl ntmps32 rfl (Inv.start w) ?_;refine gy ?_;refine dC 5 1 ?_;refine Z_6 ?_;refine cq (λq:Nat×Option Addr×Nat=>[(4,.slice q.2.1 (fD l q.1).length q.2.2),(7,.slice A l.length c),(8,.int .i64 (l.length:Int)),(9,.int .i64 (q.1:Int))]) (λq=>[sl .u8 5 q.2.1 (fD l q.1).length q.2.2 (fD l q.1)]) (λq=>q.1<=l.length) (λq=>l.length - q.1) ((⟨0,none,0⟩:Nat×Option Addr×Nat)) ?_ ?_ ?_ ?_
 .exact aq _
 .exact Zwk
 .exact Zu
 rintro⟨k,A1,c1⟩ hk;dsimp only at hk|-;have hcl:=jw l k;refine Z_6 ?_;refine ZW ?_ ?_<;>intro hc3
 .simp only[aj]at hc3;have hkl:k<l.length:=Wq1;obtain⟨ad,rfl⟩:=h.some_ Wq1;have hla:l[k]? =some (l[k]'hkl):=ai hkl;obtain⟨⟨op,nn⟩,ha⟩:=Zgn (l[k]'hkl);rw[ha]at hla;have hop:fI op nn=true:=hr (op,nn) (aD hla);refine Z_6 ?_;refine uR ?_;refine dN (cz (vs:=[.int .i64 op,.int .u32 nn]) Zrf Zrf Zv0) (fv h (λj v hj=>fK qX (i:=j) hla hj)) rfl ?_;refine ZN λb6=>?_
  refine ZM ?_;refine Z_6 ?_;refine ZSe (λw hi=>tG op nn w) ?_;refine Z_3 ?_;refine dc rfl ((by rw[hop];rfl)) ?_;refine Z_5 ?_;refine ZcL ([sl .u8 5 A1 (fD l k).length c1 (fD l k)]) (λw hi hin=>gput_ok A1 c1 (fD l k) Wq1 op nn w hin) ?_;rintro _ _ ⟨_,⟨A3,c3,rfl,rfl⟩,rfl⟩;rw[<-gZ hla];refine Z_5 ?_;refine Wq8 ?_;refine bX ((⟨k+1,A3,c3⟩:Nat×Option Addr×Nat)) ?_ ?_ ?_
  .exact⟨show k+1<=l.length by omega,show l.length - (k+1)<l.length - k by omega⟩
  .exact Zwk
  exact Zj
 simp only[ah]at hc3;obtain rfl:k=l.length:=Wq1;refine jd ?_;refine rx (cs':=[slv _ _ _ _ _ _]) (.inl rfl) Zu rfl rfl rfl ?_;exact⟨A1,c1,rfl,rfl⟩
theorem Fu(H:rp)(hn:H.L.n<=1000000)(Q:Nat->Cfg)(E n:Nat)(hE:E<=8*n)(hn1:n<=1000)(h1:∀j,j<=E->(Q j).1.halted=decide (j=E))(h2:∀j,j<=E->(Q j).1.count=(j:Int))(h3:∀j,(Q j).2.2.out=[])
  (h4:∀a,a<=E->∃j,a<=j/\j<=E/\eW H.L.n 8 (Q a).1 (Q a).2.1 (Q a).2.2=Q j/\(j=E\/a+8<=j)) (G:Gst) (hG:G.ok H.L.n) (h0:(G.s,G.U,G.d)=Q 0) (w:World) (hi:Inv w (bM (gsF H G)) (gsF H G) w) (ht:∀w',dG (bM (gsF H G)) w w'->iG w'):
  Ctr prog 67 [.pointer (some ⟨H.bg,0,none⟩),.int .i64 (n:Int)] w (gsF H G) (λv cs=>∃G',(G'.ok H.L.n/\(G'.s,G'.U,G'.d)=Q E)/\v= .bool true/\cs=gsF H G'):=by
 refine bN func67 rfl ntmps67 rfl hi ?_;refine gR ?_;refine cq (λq:Nat×Nat×Gst=>[(0,.pointer (some ⟨H.bg,0,none⟩)),(1,.int .i64 (n:Int)),(5,.int .i64 (q.1:Int))]) (λq=>gsF H q.2.2) (λq=>q.2.2.ok H.L.n/\q.2.1<=E/\(q.2.2.s,q.2.2.U,q.2.2.d)=Q q.2.1/\(q.2.1=E\/8*q.1<=q.2.1)/\q.1<=n) (λq=>n - q.1) ((⟨0,0,G⟩:Nat×Nat×Gst)) ?_ ?_ ?_ ?_
 .exact⟨hG,aq _,h0,.inr (aq _),aq _⟩
 .exact Zwk
 .exact Zu
 rintro⟨k,j,⟨s,X,Y,U,d,o⟩⟩ ⟨hG,hj,hq,ha,hk⟩;dsimp only at hG hj hq ha hk|-;have hg:=hG.g;dsimp only at hg;obtain⟨hd16,hr16, -⟩:=St.fits hg.right;have hh:=h1 j hj;rw[<-hq]at hh;dsimp only at hh;refine Z_2 ?_;rcases Nat.lt_or_ge k n with hkn|hkn
 .refine Z_3 ?_;refine Zy (y_lss (Zv rfl) (Zv rfl) (show _=true from ax Wq1)) ?_;refine Z_2 ?_;refine fF (bR rfl rfl) rfl (cU rfl (λ_ _=>rfl) (λw hi=>i5 H ⟨s,X,Y,U,d,o⟩ w (hi.get Zh) (hi.NM (show Has _ (slD s X.Ad X.cd)from Zh) (show Has _ (slR s X.Ar X.cr)from Zh) (by show s.d.length*4<=_;omega) (by show s.r.length*4<=_;omega)))) rfl ?_;rintro _ _ ⟨_,⟨A3,c3,A4,c4,rfl,rfl⟩,rfl⟩;refine Zyy rfl rfl (lM rfl rfl Zrf (dh rfl) rfl) ?_;refine Z_4 ?_;refine ZW ?_ ?_<;>intro hc2
  .have hjE:j≠E:=(λe=>by rw[hh,ax e]at hc2;cases hc2);obtain⟨j2,p1,p2,p3,p4⟩:=h4 j hj;have q2:=h2 j2 p2;have q1:=h2 j hj;have q3:=h3 j;rw[<-hq]at p3 q1 q3;dsimp only at p3 q1 q3;have e8:IntKind.i64.wrap (IntKind.u64.wrap ((j2:Int) - (j:Int)))=((j2 - j:Nat):Int):=(by rw[u64_wrap_id _ Wq1 Wq1,bF _ ⟨by omega,by omega⟩];omega);have HR:=λw hi ht=>lf H ⟨s,X,Y,U,d,o⟩ hn hG 8 Wq5 Wq5 (by dsimp only;rw[q3];decide) w hi ht
   dsimp only at HR;rw[p3,q2,q1,e8]at HR;refine Z_7 ?_;refine ZcL (gsF H ⟨s,X,Y,U,d,o⟩) (λw hi hin=>HR w hin (λw' hk=>ht w' (hi.Ns Zi hk))) ?_;rintro _ _ ⟨_,⟨G3,⟨hG3,hr3, -⟩,rfl,rfl⟩,rfl⟩;refine Z_3 ?_;refine dc rfl ((by rw[beq_eq_false_iff_ne];omega)) ?_;refine Z_5 ?_;refine Wq8 ?_;refine bX ((⟨k+1,j2,G3⟩:Nat×Nat×Gst)) ?_ ?_ ?_
   .exact⟨⟨hG3,p2,hr3,(by show j2=E\/8*(k+1)<=j2;omega),show k+1<=n by omega⟩,show n - (k+1)<n - k by omega⟩
   .exact Zwk
   exact Zj
  have hhE:s.halted=true:=(by simpa using hc2);obtain rfl:j=E:=(by rw[hh]at hhE;exact of_decide_eq_true hhE);refine Z_8 ?_;refine ZS (λw hi=>i5 H ⟨s,X,Y,U,d,o⟩ w (hi.get Zh) (hi.NM (show Has _ (slD s X.Ad X.cd)from Zh) (show Has _ (slR s X.Ar X.cr)from Zh) (by show s.d.length*4<=_;omega) (by show s.r.length*4<=_;omega))) ?_;rintro _ _ ⟨_,⟨A5,c5,A6,c6,rfl,rfl⟩,rfl⟩;refine Zy (lM rfl rfl Zrf Zv0 (congrArg (λb=>some (Value.bool b)) hhE)) ?_;refine Z_4 ?_;refine bP (gsF H ⟨s,X,Y,U,d,o⟩) Zj ?_;refine Zrb ((gsF H ⟨s,X,Y,U,d,o⟩)) ?_;exact⟨⟨s,X,Y,U,d,o⟩,⟨hG,hq⟩,rfl,rfl⟩
 obtain rfl:j=E:=Wq1;have hhE:s.halted=true:=(by rw[hh];exact ax rfl);refine Z_3 ?_;refine Zy (y_lss (Zv rfl) (Zv rfl) (show _=false from aw Wq1)) ?_;refine Z_2 ?_;refine Wq17 ?_;refine Zy (CZ (q:=false) (Zv rfl) ⟨_,rfl,λ_ e=>by simp at e⟩) ?_;refine Z_2 ?_;refine fS ?_;refine Z_8 ?_;refine ZS (λw hi=>i5 H ⟨s,X,Y,U,d,o⟩ w (hi.get Zh) (hi.NM (show Has _ (slD s X.Ad X.cd)from Zh) (show Has _ (slR s X.Ar X.cr)from Zh) (by show s.d.length*4<=_;omega) (by show s.r.length*4<=_;omega))) ?_;rintro _ _ ⟨_,⟨A5,c5,A6,c6,rfl,rfl⟩,rfl⟩;refine Zy (lM rfl rfl Zrf Zv0 (congrArg (λb=>some (Value.bool b)) hhE)) ?_;refine Z_4 ?_;refine bP (gsF H ⟨s,X,Y,U,d,o⟩) Zj ?_;refine Zrb ((gsF H ⟨s,X,Y,U,d,o⟩)) ?_;exact⟨⟨s,X,Y,U,d,o⟩,⟨hG,hq⟩,rfl,rfl⟩
theorem JJ(Q:Nat->Cfg)(E k n:Nat)(hE:E<=8*k)(hk1:k<=1000)(h1:∀j,j<=E->(Q j).1.halted=decide (j=E))(h2:∀j,j<=E->(Q j).1.count=(j:Int))(h3:∀j,(Q j).2.2.out=[])
  (h4:∀a,a<=E->∃j,a<=j/\j<=E/\eW n 8 (Q a).1 (Q a).2.1 (Q a).2.2=Q j/\(j=E\/a+8<=j)) (hn0:1<=n) (hn:n<=64) (A:Option Addr) (c:Nat) (l:List Int) (hll:l.length<=n*64) (hlb:u8s l) (h0:(St.new,(⟨Mem.load n l,dz⟩:Mmu),Dev.init [])=Q 0) (w:World) (hA:Rd w .u8 A l.length c l) (ht:iG w):
  Ctr prog 33 [imgV A c l none 0 [] n,.int .i64 (k:Int)] w [] (λv cs=>∃H G,(G.ok n/\H.L.n=n/\(G.s,G.U,G.d)=Q E)/\v= .tuple #[.pointer (some ⟨H.bg,0,none⟩),.bool true]/\cs=gsF H G):=by
 have HN:=λtr w hA=>lw n hn0 hn A none c 0 l [] hll hlb Wq5 (λx hx=>by cases hx) tr w hA (wV w .u8)
 obtain⟨W0,hW0⟩:=Zgn (List.replicate 256 (-1:Int));obtain⟨B0,hB0⟩:=Zgn (List.replicate 16384 (0:Int));obtain⟨P0,hP0⟩:=Zgn (List.replicate 4 (-1:Int));rw[hB0,hW0,hP0]at HN;have HU:∀(H:rp) (G:Gst) (tr:Bool),Jg H.L.bp 0 n B0 W0 P0 l [] tr H G->H.L.n=n/\∀w,Inv w (bM (gsF H G)) (gsF H G) w->(∀w',dG (bM (gsF H G)) w w'->iG w')->Ctr prog 67 [.pointer (some ⟨H.bg,0,none⟩),.int .i64 (k:Int)] w (gsF H G) (λv cs=>∃G',(G'.ok H.L.n/\(G'.s,G'.U,G'.d)=Q E)/\v= .bool true/\cs=gsF H G'):=λH G tr hB=>
  ⟨hB.hn,λw hi ht=>Fu H (by have:=hB.hn;omega) Q E k hE hk1 h1 h2 h3 (by rw[hB.hn];exact h4) G (by rw[hB.hn];exact hB.ok) (by rw[hB.hs,hB.hu,hB.hd];exact h0) w hi ht⟩
 have HV:∀(G:Gst),G.ok n->(G.s,G.U,G.d)=Q E->G.d.out=[]/\G.view.wf/\G.view=⟨(Q E).1,(Q E).2.1.m.data,(Q E).2.2.out,(Q E).2.2.inp,(Q E).2.2.M4,(Q E).2.2.M5,(Q E).2.2.mask,false⟩:=λG hG hq=>by
  have e3:=h3 E;rw[<-hq]at e3|-;dsimp only at e3|-;exact⟨e3,hG.view (by rw[e3];exact λx hx=>by cases hx),rfl⟩
 refine bN func33 rfl ntmps33 rfl (Inv.start w) ?_;refine Z_2 ?_;refine ZO λb2=>?_;refine Z_5 ?_;refine bU ⟨λj=>List.elem j [],[]⟩ Zk ?_;refine dD 0 rfl Zk Zk Zk Zk (cz (vs:=[.slice A l.length c,.slice none 0 0,.int .i64 (n:Int)]) Zrf Zrf Zv0) (cK Zh rfl) rfl ?_;refine dD 2 rfl Zk Zk Zk Zk (cz (vs:=[.slice A l.length c,.slice none 0 0,.int .i64 (n:Int)]) Zrf Zrf Zv0) (cK Zh rfl) rfl ?_;refine cn 1 Zk ?_;refine ZT (λw hi=>HN true w (hA.MZ hi)) ?_;rintro _ _ ⟨_,⟨H,G,hBo,rfl,rfl⟩,rfl⟩;refine cn 3 Zk ?_;refine ZT (λw hi=>HN false w (hA.MZ hi)) ?_;rintro _ _ ⟨_,⟨H2,G2,hBo2,rfl,rfl⟩,rfl⟩;obtain⟨hn1,HR⟩:=HU H G true hBo;obtain⟨hn2,HR2⟩:=HU H2 G2 false hBo2;clear hBo hBo2;refine ZE 4 ?_;refine ZE 5 ?_;refine dx ?_;refine jd ?_;refine fF (cy rfl rfl) rfl (dY (gsF H G) rfl (λ_ _=>rfl) Zi (λw hi hin=>HR w hin (λw' hk=>RdV.M6 ht hi Zi hk))) rfl ?_;rintro _ _ ⟨_,⟨G3,⟨hG3,hq3⟩,rfl,rfl⟩,rfl⟩;refine Z_5 ?_;refine fF (cy rfl rfl) rfl (dY (gsF H2 G2) rfl (λ_ _=>rfl) Zi (λw hi hin=>HR2 w hin (λw' hk=>RdV.M6 ht hi Zi hk))) rfl ?_;rintro _ _ ⟨_,⟨G4,⟨hG4,hq4⟩,rfl,rfl⟩,rfl⟩;rw[hn1]at hG3;rw[hn2]at hG4;obtain⟨ho3,hw3,hv3⟩:=HV G3 hG3 hq3;obtain⟨ho4,hw4,hv4⟩:=HV G4 hG4 hq4;obtain⟨hd3,hr3, -⟩:=St.fits hG3.g.right;obtain⟨hd4,hr4, -⟩:=St.fits hG4.g.right;refine Z_4 ?_;refine fS ?_;refine Z_6 ?_;refine ZS (λw hi=>pJ H G3 (hn1.symm▸hG3) (by rw[ho3];exact aq _) w (hi.okS Zi)) ?_;rintro _ _ ⟨_,⟨Y1,rfl,rfl⟩,rfl⟩;refine ZA ?_;refine ZS (λw hi=>pJ H2 G4 (hn2.symm▸hG4) (by rw[ho4];exact aq _) w (hi.okS Zi)) ?_;rintro _ _ ⟨_,⟨Y2,rfl,rfl⟩,rfl⟩;refine ZS (λw hi=>Cf G3.view G4.view Y1 Y2 hw3 hw4 w (Js (hi.okS (show ja (vwC G3.view Y1) _ _ from Zi)) (by show G3.s.d.length*4<=_;omega) (by show G3.s.r.length*4<=_;omega)) (Js (hi.okS (show ja (vwC G4.view Y2) _ _ from Zi)) (by show G4.s.d.length*4<=_;omega) (by show G4.s.r.length*4<=_;omega))) ?_;rintro _ _ ⟨_,⟨⟨r,rfl,hr⟩,rfl⟩,rfl⟩;obtain rfl:r=true:=hr.2 (hv3.trans hv4.symm);refine Z_5 ?_;refine bP (gsF H G3) Zj ?_;refine rx (cs':=(gsF H G3)) (.inl rfl) Zu rfl rfl rfl ?_;exact⟨H,G3,⟨hG3,hn1,hq3⟩,rfl,rfl⟩
end Go.Proofs.YtkegldppffignaaGreatDoor
namespace Go.Ink
open Go.RowKit
def FU(l:List Int)(k:Nat):List (Int×Int):=(2,0)::yz (l.take k)
theorem JR{l:List Int}{k:Nat}(h:k<=l.length):(FU l k).length=1+2*k:=by
 unfold FU;rw[ak,px,aB];omega
theorem FT{l:List Int}{k:Nat}{v:Int}(h:l[k]? =some v):FU l (k+1)=FU l k++[(2,v),(16,0)]:=by
 unfold FU yz;rw[List.take_add_one,h,List.flatMap_append]
 rfl
theorem FV(l:List Int):kg l=FU l l.length++[(2,1000),(49,0),(69,0)]:=by
 unfold FU kg;rw[bn]
 rfl
theorem wI(l:List Int):(kg l).length=1+2*l.length+3:=by
 rw[FV,ae,JR (aM _)]
 rfl
theorem Dw{l:List Int}:∀i,i∈kg l->fI i.1 i.2=true:=by
 have h2:∀v:Int,fI 2 v=true:=λv=>rfl
 intro i hi;unfold kg yz at hi;rcases aJ.1 hi with rfl|hi
 .rfl
 rcases aS.1 hi with hi|hi
 .obtain⟨v, -,hv⟩:=List.mem_flatMap.1 hi;rcases aJ.1 hv with rfl|hv
  .exact h2 v
  rw[aK.1 hv];rfl
 simp only[aJ,List.not_mem_nil,or_false]at hi;rcases hi with rfl|rfl|rfl<;>rfl
theorem FR{l:List Int}(hl:l.length<=15):(eG (kg l)).length<=16*64:=by
 have:=jw (kg l) (kg l).length;have h2:=wI l;unfold eG;omega
end Go.Ink
namespace Go.Proofs.YtkegldppffignaaGreatDoor
open Go.RowKit Go.Ink Go.Proofs.Tryz
attribute [local irreducible] OpY bS
theorem JQ(b:List Int)(hb15:b.length<=15)(hb:∀v,v∈b->0<=v/\v<=4294967295)(A:Option Addr)(c:Nat)(w:World)(hA:Rd w .u8 A (eG (kg b)).length c (eG (kg b)))(ht:iG w):
  Ctr prog 33 [imgV A c (eG (kg b)) none 0 [] 16,.int .i64 60] w [] (λv cs=>∃H G,(G.ok 16/\H.L.n=16/\G.s.d=[]/\wc H.L G.U.m 1000= .tuple #[.int .u32 (rJ b b.length),.bool true])/\v= .tuple #[.pointer (some ⟨H.bg,0,none⟩),.bool true]/\cs=gsF H G):=by
 have hd:(Mem.load 16 (eG (kg b))).data=sumD b:=Mem.Nt (FR hb15);have hend:∀j,j<=4+2*b.length->(p7 b ⟨Mem.load 16 (eG (kg b)),dz⟩ (Dev.init []) j).1.halted=decide (j=4+2*b.length):=λj hj=>by
  by_cases e:j=4+2*b.length
  .rw[ax e,e,kP (aM _)]
  rw[aw e];exact wE Wq1
 refine(JJ (p7 b ⟨Mem.load 16 (eG (kg b)),dz⟩ (Dev.init [])) (4+2*b.length) 60 16 Wq1 Wq5 hend (λj hj=>FS hj) (λj=>by rw[sum_dev];rfl) (λa ha=>sum_run hb15 hb hd rfl rfl ha (m:=8) Wq5) Wq5 Wq5 A c (eG (kg b)) (FR hb15) (nk _ _) rfl w hA ht).mono ?_;rintro v cs ⟨H,G,⟨hG,hn,hq⟩,hv,hcs⟩;refine⟨H,G,⟨hG,hn,?_,?_⟩,hv,hcs⟩
 .have:=congrArg (λq:Cfg=>q.1.d) hq;rw[kP (aM _)]at this;exact this
 have h2:=congrArg (λq:Cfg=>q.2.1) hq;rw[kP (aM _)]at h2;dsimp only at h2;have hw:=JO hb15;unfold nT at hw;unfold wc;rw[h2,hn];rw[ax Wq5]at hw|-;exact congrArg (λq:Int×Bool=>Value.tuple #[.int .u32 q.1,.bool q.2]) hw
theorem Ds(A:Option Addr)(c:Nat)(b0:List Int)(hb0:∀v,v∈b0->0<=v/\v<=4294967295)(w:World)(h:Rd w .u32 A b0.length c b0)(ht:iG w):
  Ctr prog 6 [.slice A b0.length c] w [] (λv cs=>v= .bool true/\cs=[]):=by
 obtain⟨b,hbb⟩:=Zgn (b0.take 15);have hbl:b.length=min 15 b0.length:=by rw[<-hbb,aB]
 have hb:∀v,v∈b->0<=v/\v<=4294967295:=λv hv=>hb0 v (bj (hbb▸hv))
 have hbx:∀k,k<b.length->b[k]? =b0[k]? :=λk hk=>by rw[<-hbb,List.getElem?_take,if_pos Wq1]
 have hcap:=h.cap;have hmax:=h.max;unfold maxLen at hmax;have HJ:=λA c w h=>join_ok A c (kg b) (by rw[wI];omega) Dw w h
 have HB:=JQ b Wq1 hb;obtain⟨B0,hB0⟩:=Zgn (eG (kg b));rw[hB0]at HJ HB;have e2:(FU b b.length).flatMap dR++[Value.int .i64 2,.int .u32 1000,.int .i64 49,.int .u32 0,.int .i64 69,.int .u32 0]=(kg b).flatMap dR:=by rw[FV,List.flatMap_append];rfl
 refine bN func6 rfl ntmps6 rfl (Inv.start w) ?_;refine Bn ?_;refine ZSe (λw hi=>gC _ w) ?_;refine ro ?_;rintro _ _ ⟨b14,rfl,rfl⟩;refine gj (yf (e:=27) (sz:=2) (bytes:=16) rfl rfl rfl rfl (λw hi=>hi.rd (show Has _ (slv 27 2 (some ⟨b14,0,none⟩) 1 1 [.int .i64 2,.int .u32 0])from Zh)) (jA rfl) gS Wq1) rfl ?_;rintro _ _ ⟨A1,c1,rfl,rfl⟩;refine dS ?_;refine cq (λq:Nat×Option Addr×Nat=>[(0,.slice A b0.length c),(3,.slice q.2.1 (1+2*q.1) q.2.2),(4,.int .u32 (rJ b q.1)),(5,.int .i64 (q.1:Int))]) (λq=>[slv 27 2 q.2.1 (1+2*q.1) q.2.2 ((FU b q.1).flatMap dR)]) (λq=>q.1<=b.length) (λq=>20 - q.1) ((⟨0,A1,c1⟩:Nat×Option Addr×Nat)) ?_ ?_ ?_ ?_
 .exact aq _
 .exact Zwk
 .exact Zu
 rintro⟨k,A2,c2⟩ hk;dsimp only at hk|-;refine jd ?_;refine ZW ?_ ?_<;>intro hc5
 .have hkk:k<b0.length/\k<15:=(by simp at hc5;omega);have hkb:k<b.length:=Wq1;obtain⟨ad,rfl⟩:=h.some_ Wq1;obtain⟨x,hxb⟩:∃x,b[k]? =some x:=⟨_,ai hkb⟩;have hx:=(hbx k hkb).symm.trans hxb;have e1:(FU b k).flatMap dR++[Value.int .i64 2,.int .u32 x,.int .i64 16,.int .u32 0]=(FU b (k+1)).flatMap dR:=(by rw[FT hxb,List.flatMap_append];rfl);refine Z_9 ?_;refine uR ?_;refine dN (bQ Zrf Zv0) (eo h (cR hx)) rfl ?_;refine ZSe (λw hi=>gC _ w) ?_;refine ZSe (λw hi=>jG _ w) ?_;refine ro ?_;rintro _ _ ⟨b33,rfl,rfl⟩;refine gj (cD (e:=27) (sz:=2) (bytes:=16) rfl rfl Za rfl rfl (λw hi=>hi.rd (show Has _ (slv 27 2 (some ⟨b33,0,none⟩) 2 2 [.int .i64 2,.int .u32 x,.int .i64 16,.int .u32 0])from Zh)) (jA rfl) gS Wq1) rfl ?_;rintro _ _ ⟨A3,c3,rfl,rfl⟩;rw[e1,show 1+2*k+2=1+2*(k+1) by omega];refine Z_7 ?_;refine uR ?_;refine dN (bQ Zrf Zv0) (eo h (cR hx)) rfl ?_;refine Zy (df (Zv rfl) (Zv rfl) (show _=rJ b (k+1)from(sC hxb).symm)) ?_;refine Z_6 ?_;refine Wq8 ?_;refine bX ((⟨k+1,A3,c3⟩:Nat×Option Addr×Nat)) ?_ ?_ ?_
  .exact⟨show k+1<=b.length by omega,show 20 - (k+1)<20 - k by omega⟩
  .exact Zwk
  exact Zj
 obtain rfl:k=b.length:=(by simp at hc5;omega);refine Z_8 ?_;refine ZSe (λw hi=>gC _ w) ?_;refine ZSe (λw hi=>jG _ w) ?_;refine ZSe (λw hi=>jG _ w) ?_;refine ro ?_;rintro _ _ ⟨b45,rfl,rfl⟩;refine gj (cD (e:=27) (sz:=2) (bytes:=16) rfl rfl Za rfl rfl (λw hi=>hi.rd (show Has _ (slv 27 2 (some ⟨b45,0,none⟩) 3 3 [.int .i64 2,.int .u32 1000,.int .i64 49,.int .u32 0,.int .i64 69,.int .u32 0])from Zh)) (jA rfl) gS Wq1) rfl ?_;rintro _ _ ⟨A4,c4,rfl,rfl⟩;rw[e2,<-wI];refine Z_6 ?_;refine ZS (λw hi=>HJ A4 c4 w (hi.rd (show Has _ (slv 27 2 A4 (kg b).length c4 ((kg b).flatMap dR))from Zh))) ?_;rintro _ _ ⟨_,⟨A5,c5,rfl,rfl⟩,rfl⟩;refine gy ?_;refine fS ?_;refine Z_6 ?_;refine ZS (λw hi=>HB A5 c5 w (hi.rd (show Has _ (sl .u8 5 A5 B0.length c5 B0)from Zh)) (ht.old hi)) ?_;rintro _ _ ⟨_,⟨H,⟨s,X,Y,U,d,o⟩,⟨hG,hn16,hsd,hwd⟩,rfl,rfl⟩,rfl⟩;dsimp only at hsd hwd;have HW:=rL H.L U.m 1000 Wq5;rw[hwd]at HW;have hg:=hG.g;dsimp only at hg;obtain⟨hd16,hr16, -⟩:=St.fits hg.right;refine gy ?_;refine fS ?_;refine Z_8 ?_;refine ZSe (λw hi=>HW w (hi.get (show Has _ (eA H.L U.m)from Zh))) ?_;refine jd ?_;refine Zyy rfl rfl (jc (dh rfl) (dh rfl) (beq_self_eq_true _)) ?_;refine Z_3 ?_;refine fF (bR rfl rfl) rfl (cU rfl (λ_ _=>rfl) (λw hi=>i5 H ⟨s,X,Y,U,d,o⟩ w (hi.get Zh) (hi.NM (show Has _ (slD s X.Ad X.cd)from Zh) (show Has _ (slR s X.Ar X.cr)from Zh) (by show s.d.length*4<=_;omega) (by show s.r.length*4<=_;omega)))) rfl ?_;rintro _ _ ⟨_,⟨A6,c6,A7,c7,rfl,rfl⟩,rfl⟩;refine Zyy rfl rfl (lM rfl rfl Zrf (dh rfl) rfl) ?_;refine ZB ?_;refine Zyy rfl rfl (jc (dh rfl) (Zv rfl) (show _=true from by rw[hsd];rfl)) ?_;refine Z_2 ?_;refine fF (bR rfl rfl) rfl (cU rfl (λ_ _=>rfl) (λw hi=>p5 w (ht.old hi))) rfl ?_;rintro _ _ ⟨_,⟨rfl,rfl⟩,rfl⟩;refine Z_5 ?_;refine Zra ?_;exact de
open Go
set_option maxRecDepth 100000 in
set_option maxHeartbeats 0 in
theorem wq:joinedFacts checked.prog 6 f6 Rows.topSumsSpec Rows.topSumsRow=true:=by
 unfold joinedFacts
 repeat refine andI ?_ Wq6
 as_aux_lemma=>kernel_rfl
set_option maxHeartbeats 0 in
theorem xZ:f6.isInstance checked.prog Rows.topSumsRow.origin Rows.topSumsRow.targs:=of_decide_eq_true (by kernel_rfl)
set_option maxHeartbeats 0 in
theorem xX:f6.isWrapper checked.prog Rows.topSumsRow.wrapper Rows.topSumsRow.mainSum:=of_decide_eq_true (by kernel_rfl)
set_option maxHeartbeats 0 in
theorem wo:checked.prog.funcNamed Rows.topSumsRow.func=some 6:=by kernel_rfl
theorem fa{W:World}(h:laidMetH prog Rows.topSumsRow.laid W):iG W:=
 kj (t:=262) (e:=5) (Ni:=uy) h (MakeChecks.laidMetH_plain _ _ _ Wq6) rfl (g:=0) Wq6 Wq6 Wq6 Wq6 Wq6 rfl gS
theorem i7(os:Os)(args:Array Value):laidMetH prog Rows.topSumsRow.laid ((World.doorLaid prog 400 os).forCall (λ_ _=>0) ⟨#[],args,[]⟩).memory:=
 laidMetH_of_parts3 (fuel:=8) (laidMet_of_run' 8 Wq6 Wq6) Wq6 Wq6
set_option maxRecDepth 100000 in
theorem uB(os:Os)(started:os.Started)(H:Type)(enc:TypeId×Value->H):
  ReturnsInHanded {} checked os 6 .any (λw args=>(Rows.topSumsSpec.pre enc prog f6 [] false w args/\laidMetH prog Rows.topSumsRow.laid w)/\sizedMet enc prog f6 (OpenSpec.ofChange Rows.topSumsSpec) false w args) (Rows.topSumsSpec.post enc prog f6 false true false false):=
 lz (C:=checked) (ts:=[44]) own0 started Wq6 func6
  (ChangeSpec.witness_shaped (enc:=enc) (C:=checked) (os:=os) (X:=λw _=>laidMetH prog Rows.topSumsRow.laid w) false (World.doorLaid prog 400 os) #[.slice none 0 0] 8 rfl (World.shaped_of_RefB Wq6 Wq6) Wq6 Wq6 Wq6 (i7 os _))
  rfl rfl rfl rfl (λds h=>by match ds,h with|[_],_=>rfl) AO Wq6 (λW vs h hx=>by
   have ht:=fa hx;obtain⟨v0,_,rfl,a0,rfl⟩:=h;obtain⟨A,c,b,rfl,h1, -,hb⟩:=a0.ints (e:=25) (k:= .u32) rfl rfl rfl;exact nP (Ds A c b (λx hx=>E5 (hb x hx)) W h1 ht))
set_option maxHeartbeats 0 in
theorem xY:Rows.TopSumsSaid:=
 OpenClaim.holds_of_wide 6 f6 rfl rfl rfl rfl rfl rfl rfl ⟨rfl,rfl,rfl,rfl,rfl⟩ rfl rfl rfl rfl rfl wo func6 wq xZ xX
  (λos started H enc _=>uB os started H enc)
set_option maxHeartbeats 0 in
theorem topSums_holds:Rows.TopSumsCardSaid:=
 Claim7.holds_tied_plain_at .later [] [.data] true Rows.topSumsCard.stood.harness false
  xY (λ_ h=>by cases h) Wq6 (λ_ h=>by cases h) topSums_row_tie rfl ⟨rfl,rfl⟩ Wq6 rfl
  (λf fn hf hfn=>by
   obtain rfl:f=6:=ay ((show prog.funcNamed "innkeeper/innkeepertop.TopSums" =some 6 by as_aux_lemma=>kernel_rfl).symm.trans hf)|>.symm
   obtain rfl:fn=f6:=(ay (func6.symm.trans hfn)).symm;exact⟨by as_aux_lemma=>kernel_rfl,λj t ht=>by
    have hm:t∈f6.params.toList:=by simpa using Array.mem_of_getElem? ht
    have hall:(f6.params.toList.all λu=> !prog.wantsStandIn u)=true:=by as_aux_lemma=>kernel_rfl
    exact(show prog.wantsStandIn t=false by simpa using bo.1 hall t hm)⟩)
  Wq6
#print axioms topSums_holds
end Go.Proofs.YtkegldppffignaaGreatDoor
