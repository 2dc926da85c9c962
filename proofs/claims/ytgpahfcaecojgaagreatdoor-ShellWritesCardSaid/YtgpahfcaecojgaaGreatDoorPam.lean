/- Lemmas. -/
import Derived.Test.YtgpahfcaecojgaaGreatDoorPaj
import Derived.Test.YtgpahfcaecojgaaGreatDoorPal
set_option linter.all false
set_option maxRecDepth 100000
set_option maxHeartbeats 4000000
namespace Go.Ink
open Go.RowKit
def II.zero:II:=⟨0,0,0,0,0⟩
def iS(U:List Bool)(l:Li):List Bool:=l.foldl (λU n=>bif n != -1 then U.set n.toNat true else U) U
def j4(code:List II):Nat->List Bool->List Bool
 |0,U=>U
 |k+1,U=>j4 code k (bif U.getD k false&&lH (code.getD k II.zero)then iS U [(code.getD k II.zero).a,(code.getD k II.zero).b]else U)
def Kv(p:Pg):List Bool:=iS (iS (iS (List.replicate p.code.length false) p.Wo) p.Wp) [p.flags,p.target]
def gt(p:Pg):List Bool:=j4 p.code p.code.length (Kv p)
def pq(x:II)(pl:Li)(n:Nat):II:=bif lH x then⟨x.op,n,pl.getD x.a.toNat 0,pl.getD x.b.toNat 0,x.imm⟩else⟨x.op,n,x.a,x.b,x.imm⟩
def nZ(U:List Bool):List II->Nat->List Int->List II->List Int×List II
 |[],_,pl,c=>(pl,c)
 |x::suf,i,pl,c=>bif U.getD i false then nZ U suf (i+1) (pl.set i (c.length:Int)) (c++[pq x (pl.set i (c.length:Int)) c.length])else nZ U suf (i+1) pl c
def dY(pl:Li)(l:Li):List Int:=l.map λn=>pl.getD n.toNat 0
def eL(p:Pg):List Int×List II:=nZ (gt p) p.code 0 (List.replicate p.code.length 0) []
def ib(pl:Li)(n:Int):Int:=bif n != -1 then pl.getD n.toNat 0 else n
def cG(p:Pg):Pg:=⟨(eL p).2,p.Wc,p.Wd,p.WH,p.WK,dY (eL p).1 p.Wo,dY (eL p).1 p.Wp,ib (eL p).1 p.flags,p.next,ib (eL p).1 p.target,p.branch,p.taken,p.count,(eL p).2.length⟩
def WfC(code:List II):Prop:=∀(i:Nat) (x:II),code[i]? =some x->lH x=true->(0<=x.a/\x.a<i)/\(0<=x.b/\x.b<i)
abbrev us(U:List Bool)(n:Nat):Prop:=U.getD n false=true
variable{j:Nat}
theorem IC{U:List Bool}(hj:j<U.length):(U.set j true).getD j false=true:=by grind
theorem getB_ne{U:List Bool}{i:Nat}{b:Bool}(h:i≠j):(U.set i b).getD j false=U.getD j false:=by grind
theorem fP:∀(l:Li) (U:List Bool),(iS U l).length=U.length
 |[],_=>rfl
 |n::l,U=>by
  show(iS (bif n != -1 then U.set n.toNat true else U) l).length=_;rw[fP l]
  grind
theorem oM:∀(l:Li) (U:List Bool) (i:Nat),us U i->us (iS U l) i
 :=by intro y1;induction y1<;>grind [iS,IC,getB_ne]
theorem uH:∀(l:Li) (U:List Bool) (n:Int),n∈l->0<=n->n.toNat<U.length->us (iS U l) n.toNat
 :=by intro y1;induction y1<;>grind [iS,oM,IC]
theorem za:∀(l:Li) (U:List Bool) (i:Nat),us (iS U l) i->us U i\/∃n,n∈l/\n≠ -1/\n.toNat=i
 |[],_,_,h=>Or.inl h
 |m::l,U,i,h=>by
  have h:us (iS (bif m != -1 then U.set m.toNat true else U) l) i:=h;rcases za l _ i h with h|⟨n,h1,h2⟩
  .grind
  grind
theorem backTo_len(code:List II):∀(k:Nat) (U:List Bool),(j4 code k U).length=U.length
 :=by intro y1;induction y1<;>grind [j4,lH,II.zero,fP]
theorem xh(code:List II):∀(k:Nat) (U:List Bool) (i:Nat),us U i->us (j4 code k U) i
 :=by intro y1;induction y1<;>grind [j4,lH,II.zero,oM]
variable{code:List II}{k:Nat}
theorem Ek(hk:k<code.length):code[k]? =some (code.getD k II.zero):=by grind
theorem xi{code:List II}(hw:WfC code):∀(k:Nat),k<=code.length->∀(U:List Bool) (i:Nat),k<=i->us (j4 code k U) i->us U i
 |0,_,_,_,_,h=>h
 |k+1,hk,U,i,hi,h=>by
  have h:us (j4 code k (bif U.getD k false&&lH (code.getD k II.zero)then iS U [(code.getD k II.zero).a,(code.getD k II.zero).b]else U)) i:=h;have h1:=xi hw k Wq1 _ i Wq1 h;cases hc:U.getD k false&&lH (code.getD k II.zero)with
  |false=>grind
  |true=>
   rw[hc,ai]at h1;obtain⟨ha,hb⟩:=hw k _ (Ek Wq1) bY
   grind [za]
theorem qZ{code:List II}(hw:WfC code):∀(k:Nat),k<=code.length->∀(U:List Bool),U.length=code.length->∀(i:Nat),i<k->us (j4 code k U) i->lH (code.getD i II.zero)=true->us (j4 code k U) (code.getD i II.zero).a.toNat/\us (j4 code k U) (code.getD i II.zero).b.toNat
 |0,_,_,_,i,hi,_,_=>absurd hi Wq1
 |k+1,hk,U,hU,i,hi,h,hab=>by
  obtain⟨U',hU'⟩:∃U',(bif U.getD k false&&lH (code.getD k II.zero)then iS U [(code.getD k II.zero).a,(code.getD k II.zero).b]else U)=U':=⟨_,rfl⟩;have e:j4 code (k+1) U=j4 code k U':=by rw[<-hU'];rfl
  have hl:U'.length=code.length:=by
   rw[<-hU',<-hU];cases U.getD k false&&lH (code.getD k II.zero)with
   |true=>exact fP _ _
   |false=>rfl
  rw[e]at h|-;by_cases hik:i=k
  .subst hik;have h1:=xi hw i Wq1 U' i (aL _) h;obtain⟨ha,hb⟩:=hw i _ (Ek Wq1) hab
   grind [lH,II.zero,xh,uH]
  exact qZ hw k Wq1 U' hl i Wq1 h hab
section
variable {D R:Li}
structure FInv(U:List Bool)(code:List II)(i:Nat)(pl:Li)(c:List II)(D R:Li):Prop where
 len:pl.length=code.length
 val:∀n,n<i->us U n->II.in_ (pl.getD n 0) c/\ez D R c (pl.getD n 0)=ez D R code n
def WfO(code:List II):Prop:=∀(i:Nat) (x:II),code[i]? =some x->(x.op=0\/x.op=1\/x.op=2)\/lH x=true
theorem yz{V V':Li}{x:II}(h:x.op=0\/x.op=1\/x.op=2)(y:II)(h1:y.op=x.op)(h2:y.imm=x.imm):lr D R V y=lr D R V' x:=by
 obtain⟨op,dst,a,b,imm⟩:=x;obtain⟨op2,dst2,a2,b2,imm2⟩:=y;dsimp only at h h1 h2;subst h1 h2;rcases h with rfl|rfl|rfl<;>rfl
theorem Cq{V V':Li}{x y:II}(h1:y.op=x.op)(h2:y.imm=x.imm)(hx:lH x=true)(ha:V.getD y.a.toNat 0=V'.getD x.a.toNat 0)(hb:V.getD y.b.toNat 0=V'.getD x.b.toNat 0):lr D R V y=lr D R V' x:=by
 obtain⟨op,dst,a,b,imm⟩:=x;obtain⟨op2,dst2,a2,b2,imm2⟩:=y;dsimp only at h1 h2 ha hb;subst h1 h2;unfold lH at hx;simp only[bn,beq_iff_eq]at hx;rcases hx with rfl|rfl
 .show(jR imm2 (V.getD a2.toNat 0) (V.getD b2.toNat 0)).1=(jR imm2 (V'.getD a.toNat 0) (V'.getD b.toNat 0)).1;rw[ha,hb]
 show(jR imm2 (V.getD a2.toNat 0) (V.getD b2.toNat 0)).2.1=(jR imm2 (V'.getD a.toNat 0) (V'.getD b.toNat 0)).2.1;rw[ha,hb]
theorem E5{c:List II}{pl:Li}{x:II}{n:Nat}(ho:(x.op=0\/x.op=1\/x.op=2)\/lH x=true)(ha:lH x=true->ez D R c (pl.getD x.a.toNat 0)=ez D R code x.a/\ez D R c (pl.getD x.b.toNat 0)=ez D R code x.b):
  lr D R (WE D R c) (pq x pl n)=lr D R (WE D R code) x:=by
 rcases ho with ho|hx
 .grind [lH,pq,yz]
 have e:pq x pl n=⟨x.op,n,pl.getD x.a.toNat 0,pl.getD x.b.toNat 0,x.imm⟩:=by unfold pq;rw[hx];rfl
 obtain⟨h1,h2⟩:=ha hx;rw[e];exact Cq rfl rfl hx h1 h2
theorem JK(hw:WfC code)(ho:WfO code){i:Nat}{x:II}(hx:code[i]? =some x):ez D R code i=lr D R (WE D R code) x:=by
 obtain⟨hi,hxe⟩:=ar.1 hx;have hsp:code=(code.take i++[x])++code.drop (i+1):=by rw[<-hxe,aq,List.singleton_append,<-List.drop_eq_getElem_cons hi,List.take_append_drop]
 have hl:(code.take i).length=i:=by rw[aD];omega
 have e1:ez D R code i=ez D R (code.take i++[x]) i:=by
  conv=>lhs;rw[hsp]
  exact gY ⟨by omega,by grind⟩
 have e2:ez D R (code.take i++[x]) i=lr D R (WE D R (code.take i)) x:=by
  have:=ky (D:=D) (R:=R) (code.take i) x;rw[hl]at this;exact this
 rw[e1,e2];rcases ho i x hx with h|h
 .grind [yz]
 obtain⟨⟨a1,a2⟩,b1,b2⟩:=hw i x hx h;have hsp2:code=code.take i++code.drop i:=(List.take_append_drop i code).symm;have ea:ez D R code x.a=ez D R (code.take i) x.a:=by
  conv=>lhs;rw[hsp2]
  exact gY ⟨a1,by omega⟩
 have eb:ez D R code x.b=ez D R (code.take i) x.b:=by
  conv=>lhs;rw[hsp2]
  exact gY ⟨b1,by omega⟩
 exact Cq rfl rfl h ea.symm eb.symm
theorem O4{U:List Bool}{code:List II}(hw:WfC code)(ho:WfO code)(hcl:∀(i:Nat) (x:II),code[i]? =some x->us U i->lH x=true->us U x.a.toNat/\us U x.b.toNat):∀(suf:List II) (i:Nat) (pl:Li) (c:List II),code.drop i=suf->i<=code.length->
  FInv U code i pl c D R->FInv U code code.length (nZ U suf i pl c).1 (nZ U suf i pl c).2 D R
 |[],i,pl,c,hs,hi,h=>by
  have:code.length=i:=by
   have:=congrArg List.length hs;rw[bH]at this;simp at this;omega
  rw[this];exact h
 |x::suf,i,pl,c,hs,hi,h=>by
  have hil:i<code.length:=by
   have:=congrArg List.length hs;rw[bH]at this;simp at this;omega
  have hx:code[i]? =some x:=by rw[List.drop_eq_getElem_cons hil]at hs;injection hs with h1 h2;rw[ae hil,h1]
  have hs':code.drop (i+1)=suf:=by rw[List.drop_eq_getElem_cons hil]at hs;injection hs
  cases hu:U.getD i false with
  |false=>
   have e:nZ U (x::suf) i pl c=nZ U suf (i+1) pl c:=by show(bif U.getD i false then _ else _)=_;rw[hu];rfl
   rw[e];refine O4 hw ho hcl suf (i+1) pl c hs' Wq1 ⟨h.len,λn hn hun=>?_⟩;by_cases en:n=i
   .grind
   exact h.val n Wq1 hun
  |true=>
   have e:nZ U (x::suf) i pl c=nZ U suf (i+1) (pl.set i (c.length:Int)) (c++[pq x (pl.set i (c.length:Int)) c.length]):=by show(bif U.getD i false then _ else _)=_;rw[hu];rfl
   rw[e];refine O4 hw ho hcl suf (i+1) _ _ hs' Wq1 ⟨by simp[h.len],λn hn hun=>?_⟩;have hlen:=h.len;by_cases en:n=i
   .subst en;rw[de Wq1];refine⟨pj _ _,?_⟩;rw[ky,JK hw ho hx];refine E5 (ho n x hx) (λhab=>?_);obtain⟨⟨a1,a2⟩,b1,b2⟩:=hw n x hx hab;obtain⟨ua,ub⟩:=hcl n x hx hu hab;have ea:((x.a.toNat:Nat):Int)=x.a:=by omega
    have eb:((x.b.toNat:Nat):Int)=x.b:=by omega
    have ha:=(h.val x.a.toNat Wq1 ua).2;have hb:=(h.val x.b.toNat Wq1 ub).2
    grind
   obtain⟨h1,h2⟩:=h.val n Wq1 hun
   grind [cS,tf,gY]
structure Raw(p:Pg):Prop where
 wf:WfC p.code
 ops:WfO p.code
 Wo:∀n,n∈p.Wo->II.in_ n p.code
 Wp:∀n,n∈p.Wp->II.in_ n p.code
 flags:p.flags= -1\/II.in_ p.flags p.code
 target:p.target= -1\/II.in_ p.target p.code
theorem MR{p:Pg}(h:Raw p){n:Int}(hn:n∈p.Wo\/n∈p.Wp\/n=p.flags\/n=p.target)(h0:II.in_ n p.code):
  II.in_ ((eL p).1.getD n.toNat 0) (eL p).2/\ez D R (eL p).2 ((eL p).1.getD n.toNat 0)=ez D R p.code n:=by
 have hl0:(Kv p).length=p.code.length:=by unfold Kv;rw[fP,fP,fP,aI]
 have hcl:∀(i:Nat) (x:II),p.code[i]? =some x->us (gt p) i->lH x=true->us (gt p) x.a.toNat/\us (gt p) x.b.toNat:=λi x hx hu hab=>by
  have hi:i<p.code.length:=(ar.1 hx).1;have e:p.code.getD i II.zero=x:=by rw[List.getD_eq_getElem?_getD,hx];rfl
  have:=qZ h.wf p.code.length (aL _) (Kv p) hl0 i hi hu bY;rw[e]at this;exact this
 have hF:=O4 (D:=D) (R:=R) (U:=gt p) h.wf h.ops hcl p.code 0 (List.replicate p.code.length 0) [] cP (ap _) ⟨by simp,λn hn=>absurd hn Wq1⟩;obtain⟨i0,i1⟩:=h0;have en:((n.toNat:Nat):Int)=n:=by omega
 have hu:us (gt p) n.toNat:=by
  refine xh p.code p.code.length _ _ ?_;unfold Kv;rcases hn with hn|hn|hn
  .grind [oM,uH]
  .grind [oM,uH,fP]
  grind [uH,fP]
 have:=hF.val n.toNat Wq1 hu;rw[en]at this;exact this
end
def ImC(code:List II):Prop:=∀x,x∈code->0<=x.imm/\x.imm<=4294967295
structure nh(w:Lw):Prop where
 d:∀n,n∈w.d.l->II.in_ n w.code
 r:∀n,n∈w.r.l->II.in_ n w.code
 wf:WfC w.code
 ops:WfO w.code
 flags:w.flags= -1\/II.in_ w.flags w.code
 target:w.target= -1\/II.in_ w.target w.code
 imm:ImC w.code
variable{c:List II}{x:II}
theorem ImC.snoc(h:ImC c)(hx:0<=x.imm/\x.imm<=4294967295):ImC (c++[x]):=λy hy=>by
 rcases az.1 hy with h1|h1
 .exact h y h1
 grind
theorem WfC.snoc(h:WfC c)(hx:lH x=true->(0<=x.a/\x.a<c.length)/\(0<=x.b/\x.b<c.length)):WfC (c++[x]):=λi y hy hab=>by
 by_cases hi:i<c.length
 .rw[List.getElem?_append_left hi]at hy;exact h i y hy hab
 grind
theorem WfO.snoc(h:WfO c)(hx:(x.op=0\/x.op=1\/x.op=2)\/lH x=true):WfO (c++[x]):=λi y hy=>by
 by_cases hi:i<c.length
 .rw[List.getElem?_append_left hi]at hy;exact h i y hy
 grind
theorem Nn{k:Int}(hk:k=1\/k=2){c:List II}{s:Sd}(h:∀n,n∈s.l->II.in_ n c)(hw:WfC c)(ho:WfO c)(hm_:ImC c):
  II.in_ (fD k c s).1 (fD k c s).2.1/\(∀n,n∈(fD k c s).2.2.l->II.in_ n (fD k c s).2.1)/\WfC (fD k c s).2.1/\WfO (fD k c s).2.1/\ImC (fD k c s).2.1/\∃e,(fD k c s).2.1=c++e:=by
 unfold fD;cases hl:s.l.getLast? with
 |some n=>
  obtain⟨m,hm⟩:∃m,s.l=m++[n]:=List.getLast?_eq_some_iff.1 hl
  simp_all
 |none=>
  refine⟨pj _ _,λj hj=>(by cases hj),hw.snoc (λhab=>?_),ho.snoc (Or.inl ?_),hm_.snoc (by grind [IntKind.wrap_u32]),_,rfl⟩
  .rcases hk with rfl|rfl<;>cases hab
  grind
variable{n:Int}
theorem KI{c':List II}(h:II.in_ n c)(he:∃e,c'=c++e):II.in_ n c':=by grind [tf]
theorem Kn{c':List II}(h:n= -1\/II.in_ n c)(he:∃e,c'=c++e):n= -1\/II.in_ n c':=by grind [KI]
theorem nh.We{w:Lw}(h:nh w):nh w.We.2/\II.in_ w.We.1 w.We.2.code/\∃e,w.We.2.code=w.code++e:=by
 obtain⟨h1,h2,h3,h4,h6,h5⟩:=Nn (k:=1) (Or.inl rfl) h.d h.wf h.ops h.imm;exact⟨⟨h2,λn hn=>KI (h.r n hn) h5,h3,h4,Kn h.flags h5,Kn h.target h5,h6⟩,h1,h5⟩
theorem nh.WN{w:Lw}(h:nh w):nh w.WN.2/\II.in_ w.WN.1 w.WN.2.code/\∃e,w.WN.2.code=w.code++e:=by
 obtain⟨h1,h2,h3,h4,h6,h5⟩:=Nn (k:=2) (Or.inr rfl) h.r h.wf h.ops h.imm;exact⟨⟨λn hn=>KI (h.d n hn) h5,h2,h3,h4,Kn h.flags h5,Kn h.target h5,h6⟩,h1,h5⟩
theorem nh.pop2{w:Lw}(h:nh w):nh w.We.2.We.2/\II.in_ w.We.1 w.We.2.We.2.code/\II.in_ w.We.2.We.1 w.We.2.We.2.code:=by
 obtain⟨h1,h2, -⟩:=h.We;obtain⟨k1,k2,k3⟩:=h1.We
 grind [KI]
theorem nh.W7{w:Lw}(h:nh w)(l:Li)(hl:∀n,n∈l->II.in_ n w.code):nh (w.W7 l):=⟨λn hn=>by rcases az.1 hn with q|q;exact h.d n q;exact hl n q,h.r,h.wf,h.ops,h.flags,h.target,h.imm⟩
theorem nh.Xu{w:Lw}(h:nh w)(l:Li)(hl:∀n,n∈l->II.in_ n w.code):nh (w.Xu l):=⟨h.d,λn hn=>by rcases az.1 hn with q|q;exact h.r n q;exact hl n q,h.wf,h.ops,h.flags,h.target,h.imm⟩
theorem nh.add{w:Lw}(h:nh w)(op a b imm:Int)(him:0<=imm/\imm<=4294967295)(ho:op=0\/((op=3\/op=4)/\II.in_ a w.code/\II.in_ b w.code)):nh (w.add op a b imm)/\II.in_ w.here (w.add op a b imm).code:=by
 have he:∃e,(w.add op a b imm).code=w.code++e:=⟨_,rfl⟩;refine⟨⟨λn hn=>KI (h.d n hn) he,λn hn=>KI (h.r n hn) he,h.wf.snoc (λhab=>?_),h.ops.snoc ?_,Kn h.flags he,Kn h.target he,h.imm.snoc him⟩,pj _ _⟩
 .rcases ho with rfl|⟨-,⟨a1,a2⟩,b1,b2⟩
  .cases hab
  grind
 rcases ho with rfl|⟨rfl|rfl, -⟩
 .grind
 .exact Or.inr rfl
 exact Or.inr rfl
theorem nh.Wl{w:Lw}(h:nh w):nh w.Wl:=⟨h.d,h.r,h.wf,h.ops,h.flags,h.target,h.imm⟩
theorem nh.wfl{w:Lw}(h:nh w){x:Int}(hx:II.in_ x w.code):nh (w.wfl x):=⟨h.d,h.r,h.wf,h.ops,Or.inr hx,h.target,h.imm⟩
theorem nh.wtg{w:Lw}(h:nh w){x:Int}(hx:II.in_ x w.code):nh (w.wtg x):=⟨h.d,h.r,h.wf,h.ops,h.flags,Or.inr hx,h.imm⟩
theorem nh.wbr{w:Lw}(h:nh w)(x:Int):nh (w.wbr x):=⟨h.d,h.r,h.wf,h.ops,h.flags,h.target,h.imm⟩
variable{op:Int}
theorem Sg(hp:dB op=true){w:Lw}(h:nh w){n nx:Int}(hn:u32 n)(hnx:u32 nx):nh (w.one op n nx):=by
 refine nh.Wl ?_;have sing:∀{c:List II} {x:Int},II.in_ x c->∀n,n∈[x]->II.in_ n c:=λhx n hn=>by grind
 obtain⟨d1,d2,d3⟩:=h.We;obtain⟨r1,r2,r3⟩:=h.WN;obtain⟨p1,p2,p3⟩:=h.pop2;rcases qx hp with rfl|rfl|rfl|rfl|rfl|rfl|rfl|rfl|rfl|hr|hr|rfl|hr|rfl|rfl|rfl
 .exact h
 .exact(h.add 0 0 0 n hn (Or.inl rfl)).1.W7 _ (sing (h.add 0 0 0 n hn (Or.inl rfl)).2)
 .exact(h.add 0 0 0 n hn (Or.inl rfl)).1.W7 _ (sing (h.add 0 0 0 n hn (Or.inl rfl)).2)
 .exact d1.W7 _ (λn hn=>by grind)
 .exact d1
 .exact p1.W7 _ (λn hn=>by grind)
 .exact p1.W7 _ (λn hn=>by grind)
 .exact d1.Xu _ (sing d2)
 .exact r1.W7 _ (sing r2)
 .refine Wq504 ?_;obtain⟨a1,a2⟩:=p1.add 4 w.We.2.We.1 w.We.1 op Wq1 (Or.inr ⟨Or.inr rfl,p3,p2⟩);obtain⟨b1,b2⟩:=(a1.wfl a2).add 3 w.We.2.We.1 w.We.1 op Wq1 (Or.inr ⟨Or.inl rfl,tf _ p3,tf _ p2⟩);exact b1.W7 _ (sing b2)
 .rw[qP (Or.inr hr)];subst hr;obtain⟨a1,a2⟩:=p1.add 4 w.We.2.We.1 w.We.1 25 Wq1 (Or.inr ⟨Or.inr rfl,p3,p2⟩);exact a1.wfl a2
 .exact h
 .have h5:op=33\/op=34\/op=35\/op=36\/op=37:=by omega
  rcases h5 with rfl|rfl|rfl|rfl|rfl<;>exact h.wbr _
 .exact(h.add 0 0 0 nx hnx (Or.inl rfl)).1.Xu _ (sing (h.add 0 0 0 nx hnx (Or.inl rfl)).2)
 .exact r1.wtg r2
 exact d1.wtg d2
def Lw.init:Lw:=⟨[],⟨[],0,0⟩,⟨[],0,0⟩, -1, -1,0⟩
def nP(pc:Int)(w:Lw):List (Int×Int)->Option (Int×Lw)
 |[]=>some (pc,w)
 |i::l=>bif(!iy i.1 i.2|| !dB i.1)||(gN i.1&& !l.isEmpty)then none else nP (IntKind.u32.wrap (pc+IntKind.u32.wrap (cF i.1))) (w.one i.1 i.2 (IntKind.u32.wrap (pc+IntKind.u32.wrap (cF i.1)))) l
def AN(nx:Int)(w:Lw)(i:Int×Int)(n:Nat):Pg:=
 ⟨w.code,w.d.Wi,w.r.Wi,w.d.high,w.r.high,w.d.l,w.r.l,w.flags,bif i.1==32||i.1==38 then IntKind.u32.wrap (nx+ma i.2)else nx,w.target,w.branch,bif i.1==32||i.1==38 then 0 else bif w.branch !=0 then IntKind.u32.wrap (nx+ma i.2)else 0,n,w.code.length⟩
def fq(pc:Int)(l:List (Int×Int)):Option Pg:=
 bif decide ((l.length:Int)<1)||decide (8<(l.length:Int))then none else
 match nP pc Lw.init l with
 |none=>none
 |some (nx,w)=>some (cG (AN nx w (l.getLastD (0,0)) l.length))
theorem wc:nh Lw.init:=⟨λ_ h=>(by cases h),λ_ h=>(by cases h),λ_ _ h=>(by cases h),λ_ _ h=>(by cases h),Or.inl rfl,Or.inl rfl,λ_ h=>(by cases h)⟩
theorem lS{pc:Int}{w:Lw}{i:Int×Int}{l:List (Int×Int)}{q:Int×Lw}(h:nP pc w (i::l)=some q):
  iy i.1 i.2=true/\dB i.1=true/\(l≠[]->gN i.1=false)/\nP (IntKind.u32.wrap (pc+IntKind.u32.wrap (cF i.1))) (w.one i.1 i.2 (IntKind.u32.wrap (pc+IntKind.u32.wrap (cF i.1)))) l=some q:=by
 have h:(bif(!iy i.1 i.2|| !dB i.1)||(gN i.1&& !l.isEmpty)then none else nP (IntKind.u32.wrap (pc+IntKind.u32.wrap (cF i.1))) (w.one i.1 i.2 (IntKind.u32.wrap (pc+IntKind.u32.wrap (cF i.1)))) l)=some q:=h
 grind
theorem yB(x:Int):u32 (IntKind.u32.wrap x):=by grind [u32,IntKind.wrap_u32]
theorem uJ:∀(l:List (Int×Int)) (pc:Int) (w:Lw) (q:Int×Lw),(∀i,i∈l->u32 i.2)->nP pc w l=some q->nh w->nh q.2/\jV w q.2/\(l≠[]->u32 q.1)
 |[],pc,w,q,_,h,hw=>by obtain rfl:(pc,w)=q:=ay h;grind [jV.refl]
 |i::l,pc,w,q,hu,h,hw=>by
  obtain⟨-,h2, -,h4⟩:=lS h;obtain⟨k1,k2,k3⟩:=uJ l _ _ q (λj hj=>hu j (List.mem_cons_of_mem _ hj)) h4 (Sg h2 hw (hu i cP) (yB _));refine⟨k1,(Df h2 w _ _).trans k2,λ_=>?_⟩;cases l with
  |nil=>obtain rfl:=ay h4;exact yB _
  |cons j l=>grind
theorem P6{b:Bool}{x y:Run}(hx:x.device=false)(hy:y.device=false):(bif b then x else y).device=false:=by grind
section
variable {n:Nat} {op nn:Int} {s:St} {U:Mmu} {d:Dev}
theorem Ny(h:dB op=true):∃R:Run,R.device=false/\pB n s op nn U d=⟨R,U,d⟩/\Dq s op nn=R:=by
 have hc:op=0\/op=1\/op=2\/op=3\/op=4\/op=5\/op=6\/op=7\/op=8\/op=16\/op=17\/op=18\/op=19\/op=20\/op=21\/op=22\/op=23\/op=25\/op=32\/op=33\/op=34\/op=35\/op=36\/op=37\/op=38\/op=39\/op=40:=by
  rcases jc h with h|h|h|h<;>omega
 rcases hc with rfl|rfl|rfl|rfl|rfl|rfl|rfl|rfl|rfl|rfl|rfl|rfl|rfl|rfl|rfl|rfl|rfl|rfl|rfl|rfl|rfl|rfl|rfl|rfl|rfl|rfl|rfl<;>
  first
  |exact⟨_,rfl,rfl,rfl⟩
  |exact⟨_,P6 rfl rfl,rfl,rfl⟩
  |(refine⟨_,?_,rfl,rfl⟩;exact P6 (b:=(jR _ (eW s _).pop.top (eW s _).top).2.2) (x:=(eW s _).pop.pop) (y:=(eW s _).pop.pop.wt ⟨5,0⟩) rfl rfl)
theorem Hx(h:dB op=true)(hr:s.right=true):wO n s op nn U d=(doN s op nn,⟨U.m.calm,U.t⟩,d)/\(doN s op nn).device=false/\(doN s op nn).Wa=[]:=by
 obtain⟨R,h1,h2,h3⟩:=Ny (n:=n) (s:=s) (nn:=nn) (U:=⟨U.m.calm,U.t⟩) (d:=d) h;unfold wO doN;rw[hr,h2,h3];simp only[Bool.not_true,ah];cases(gc s op nn !=0)with
 |true=>grind
 |false=>
  simp only[ah];have e:KW s ⟨R,⟨U.m.calm,U.t⟩,d⟩=VQ s R:=by
   unfold KW VQ;rw[show ip U.m.calm.Wj 64=[]from JO]
  grind [VQ]
theorem Fw(h:dB op=true)(hw:s.wf)(hr:s.right=true)(hnn:u32 nn)(hU:UOk n U)(hd:d.ok):(doN s op nn).s.wf/\(doN s op nn).s.right=true:=by
 have hg:=wN (op:=op) (nn:=nn) hw hr hnn hU hd;rw[(Hx (n:=n) (nn:=nn) (U:=U) (d:=d) h hr).1]at hg;exact⟨hg.wf,hg.right⟩
end
inductive LF:List (Int×Int)->St->St->Prop
 |nil (s:St):LF [] s s
 |cons {op nn:Int} {l:List (Int×Int)} {s s1 s2:St} (hp:dB op=true) (hr:s.right=true) (h:doN s op nn=⟨s1,false,false,[]⟩) (hm:l≠[]->gN op=false/\s1.pc=dX s op) (k:LF l s1 s2):LF ((op,nn)::l) s s2
def V3(s s':St)(k:Nat):Prop:=s'=⟨s'.pc,s'.d,s'.r,s'.flags,s.Wf,s.Wn,s.ie,s.root,s.vec,s.epc,s.Wg,s.addr,s.Wu,s.eie,IntKind.u64.wrap (s.count+k),s.halted⟩
theorem V3.trans{a b c:St}(h:V3 a b 1)(k:V3 b c j):V3 a c (j+1):=by
 grind [V3,IntKind.wrap_u64]
theorem Pr(hp:dB op=true)(h:gN op=false):op<32:=by
 unfold gN at h;simp only[aS,Bool.and_eq_false_iff,aa]at h;rcases jc hp with q|q|q|q<;>omega
theorem Ig{n:Nat}{U:Mmu}{d:Dev}(hU:UOk n U)(hdv:d.ok){D R:Li}{f0:Int}(hD:D.length<=16)(hR:R.length<=16):∀(l:List (Int×Int)) (s:St) (w:Lw) (q:Int×Lw),l≠[]->(∀i,i∈l->u32 i.2)->nP s.pc w l=some q->s.wf->s.right=true->
  LI D R w s.d s.r->FL D R f0 w s.flags->w.target= -1->w.branch=0->q.2.d.Wi<=(D.length:Int)->q.2.r.Wi<=(R.length:Int)->(D.length:Int)+q.2.d.high<=16->(R.length:Int)+q.2.r.high<=16->
  ∃s',LF l s s'/\s'.wf/\s'.right=true/\LI D R q.2 s'.d s'.r/\FL D R f0 q.2 s'.flags/\s'.pc=sD D R q.2 (l.getLastD (0,0)).1 (l.getLastD (0,0)).2 q.1 s'.flags/\V3 s s' l.length/\(((l.getLastD (0,0)).1==32||(l.getLastD (0,0)).1==38)=true->q.2.branch=0)
 |[],_,_,_,hl,_,_,_,_,_,_,_,_,_,_,_,_=>absurd rfl hl
 |(op,nn)::l,s,w,q,hl,hu,h,hwf,hr,hli,hfl,htg,hbr,n1,n2,g1,g2=>by
  obtain⟨h1,h2,h3,h4⟩:=lS h;dsimp only at h1 h2 h3 h4;have hm:jV (w.one op nn (dX s op)) q.2:=by
   have:∀(l:List (Int×Int)) (pc:Int) (w:Lw) (q:Int×Lw),nP pc w l=some q->jV w q.2:=by
    intro l
    induction l with
    |nil=>intro pc w q h;obtain rfl:(pc,w)=q:=ay h;exact jV.refl _
    |cons i l ih=>intro pc w q h;obtain⟨-,h2, -,h4⟩:=lS h;exact(Df h2 w _ _).trans (ih _ _ _ h4)
   exact this l _ _ q h4
  have hnn:u32 nn:=hu (op,nn) cP;obtain⟨s1,hs⟩:=one_ok (nn:=nn) h2 h1 hr hli hfl hD hR htg hbr (Int.le_trans hm.nd n1) (Int.le_trans hm.nr n2) (by have:=hm.hd;omega) (by have:=hm.hr;omega);have hgo:=Fw (nn:=nn) h2 hwf hr hnn hU hdv;rw[hs.did]at hgo;have hk1:V3 s s1 1:=hs.rest;cases l with
  |nil=>
   obtain rfl:(dX s op,w.one op nn (dX s op))=q:=ay h4;exact⟨s1,.cons h2 hr hs.did (λe=>absurd rfl e) (.nil s1),hgo.1,hgo.2,hs.li,hs.fl,hs.pc,hk1,λhe=>(by
    have he:(op==32||op==38)=true:=he;simp only[bn,beq_iff_eq]at he;rcases he with rfl|rfl<;>exact hbr)⟩
  |cons j l=>
   have he:=h3 cP;have hlt:=Pr h2 he;obtain⟨t1,b1⟩:=hs.going hlt;have hpc:s1.pc=dX s op:=hs.pc.trans (uU b1 t1 (by
    grind))
   have h4:nP s1.pc (w.one op nn (dX s op)) (j::l)=some q:=by rw[hpc];exact h4
   obtain⟨s',c1,c2,c3,c4,c5,c6,c7,c8⟩:=Ig hU hdv hD hR (j::l) s1 (w.one op nn (dX s op)) q cP (λi hi=>hu i (List.mem_cons_of_mem _ hi)) h4 hgo.1 hgo.2 hs.li hs.fl t1 b1 n1 n2 g1 g2;exact⟨s',.cons h2 hr hs.did (λ_=>⟨he,hpc⟩) c1,c2,c3,c4,c5,c6,hk1.trans c7,c8⟩
def tG(n at_:Int):Bool:=decide (0<=n)&&decide (n<at_)
def wQ(l:Li):Bool:=l.all λn=>decide (0<=n)&&decide (n<=16)
def kE(Wc Wd:Int)(i:Nat)(x:II):Bool:=
 bif x.dst !=i then false else
 bif x.op==0 then x.a==0&&x.b==0 else
 bif x.op==1 then(x.a==0&&x.b==0)&&decide (x.imm<Wc)else
 bif x.op==2 then(x.a==0&&x.b==0)&&decide (x.imm<Wd)else
 bif x.op==3 then((tG x.a i&&tG x.b i)&&decide (16<=x.imm))&&decide (x.imm<=23)else
 bif x.op==4 then(tG x.a i&&tG x.b i)&&((decide (16<=x.imm)&&decide (x.imm<=23))||x.imm==25)else false
def ji(Wc Wd:Int):List II->Nat->Bool
 |[],_=>true
 |x::c,i=>kE Wc Wd i x&&ji Wc Wd c (i+1)
def Pg.W9(p:Pg):Bool:=wQ [p.Wc,p.Wd,p.WH,p.WK]&&(!decide (p.count<1)&& !decide (8<p.count))
def Pg.W8(p:Pg):Bool:=
 (!((p.flags != -1&& !tG p.flags p.code.length)||(p.target != -1&& !tG p.target p.code.length)))&&(p.branch==0||((decide (33<=p.branch)&&decide (p.branch<=37))&&p.target== -1))
def Pg.Ws(p:Pg):Bool:=p.W9&&(ji p.Wc p.Wd p.code 0&&((p.Wo.all λn=>tG n p.code.length)&&((p.Wp.all λn=>tG n p.code.length)&&p.W8)))
def dW(p:Pg):Pl:=jt (gg p) 7 p.code.length p.code.length
theorem zK{Wc Wd:Int}:∀(c:List II) (i:Nat),ji Wc Wd c i=true->∀(j:Nat) (x:II),c[j]? =some x->kE Wc Wd (i+j) x=true
 :=by intro y1;induction y1<;>grind [kE,ji]
theorem made_ok{Wc Wd:Int}{i:Nat}(h:kE Wc Wd i x=true)(him:0<=x.imm/\x.imm<=4294967295):x.ok Wc Wd i:=by
 obtain⟨op,dst,a,b,imm⟩:=x;unfold kE at h;dsimp only at h him;cases h0:dst !=(i:Int)with
 |true=>grind
 |false=>
 rw[h0,ah]at h;cases c0:op==0 with
 |true=>exact⟨him,Or.inl bY,λhab=>by grind⟩
 |false=>
 rw[c0,ah]at h;cases c1:op==1 with
 |true=>
  rw[c1,ai]at h;simp only[au,ac,beq_iff_eq]at h c1;exact⟨him,Or.inr (Or.inl ⟨c1,h.2⟩),λhab=>by grind⟩
 |false=>
 rw[c1,ah]at h;cases c2:op==2 with
 |true=>
  rw[c2,ai]at h;simp only[au,ac,beq_iff_eq]at h c2;exact⟨him,Or.inr (Or.inr (Or.inl ⟨c2,h.2⟩)),λhab=>by grind⟩
 |false=>
 rw[c2,ah]at h;cases c3:op==3 with
 |true=>
  rw[c3,ai]at h;simp only[tG,au,ac,beq_iff_eq]at h c3;exact⟨him,Or.inr (Or.inr (Or.inr (Or.inl ⟨c3,h.1.2,h.2⟩))),λ_=>⟨h.1.1.1,h.1.1.2⟩⟩
 |false=>
 rw[c3,ah]at h;cases c4:op==4 with
 |true=>
  rw[c4,ai]at h;simp only[tG,au,bn,ac,beq_iff_eq]at h c4;exact⟨him,Or.inr (Or.inr (Or.inr (Or.inr ⟨c4,h.2⟩))),λ_=>⟨h.1.1,h.1.2⟩⟩
 |false=>grind
theorem vN{p:Pg}(h:p.Ws=true)(him:ImC p.code)(hn:p.code.length<=64)(hnx:u32 p.next)(htk:u32 p.taken):PgOk p (gg p)/\(p.branch≠0->p.target= -1)/\(p.flags= -1\/0<=p.flags)/\(p.target= -1\/0<=p.target):=by
 unfold Pg.Ws Pg.W9 Pg.W8 wQ at h;simp only[au,Bool.not_eq_true',bn,aS,Bool.and_eq_false_iff,ac,aa,List.all_cons,List.all_nil,aQ,beq_iff_eq,bne_eq_false_iff_eq,Bool.not_eq_false',tG]at h;obtain⟨⟨⟨d1,d2,d3,d4, -⟩,c1,c2⟩,hm,hoD,hoR,⟨hf,ht⟩,hb⟩:=h;have hok:OkC p.Wc p.Wd p.code:=λn x hx=>by
  have:=zK p.code 0 hm n x hx;rw[Nat.zero_add]at this;exact made_ok this (him x (ak hx))
 refine⟨⟨hok,λn x hx ho=>?_,λn hn=>⟨(hoD n hn).1,(hoD n hn).2,qH p (Or.inl hn) (hoD n hn)⟩,λn hn=>⟨(hoR n hn).1,(hoR n hn).2,qH p (Or.inr (Or.inl hn)) (hoR n hn)⟩,λh0=>?_,λh0=>?_,?_,hn,d1,d2,d3,d4,hnx,htk,by omega⟩,?_,?_,?_⟩
 .have hl:=(ar.1 hx).1;obtain⟨a,b⟩:=(hok n x hx).ab ho;exact Oj p hx (by grind [lH]) ⟨a.1,by omega⟩ ⟨b.1,by omega⟩
 .have hf:0<=p.flags/\p.flags<p.code.length:=by rcases hf with e|e;omega;exact e
  exact⟨hf.2,qH p (Or.inr (Or.inr (Or.inl rfl))) hf⟩
 .have ht:0<=p.target/\p.target<p.code.length:=by rcases ht with e|e;omega;exact e
  exact⟨ht.2,qH p (Or.inr (Or.inr (Or.inr rfl))) ht⟩
 .omega
 .omega
 .omega
 omega
theorem AT(k:Int)(c:List II)(s:Sd):(fD k c s).2.1.length<=c.length+1:=by
 grind [fD]
theorem one_len(hp:dB op=true)(w:Lw)(n nx:Int):(w.one op n nx).code.length<=w.code.length+4:=by
 have hD:w.We.2.code.length<=w.code.length+1:=AT 1 w.code w.d;have hR:w.WN.2.code.length<=w.code.length+1:=AT 2 w.code w.r;have hP:w.We.2.We.2.code.length<=w.code.length+2:=aK (AT 1 w.We.2.code w.We.2.d) Wq1;have hA:∀(v:Lw) (a b c d:Int),(v.add a b c d).code.length=v.code.length+1:=λv a b c d=>by simp[Lw.add]
 rcases qx hp with rfl|rfl|rfl|rfl|rfl|rfl|rfl|rfl|rfl|hr|hr|rfl|hr|rfl|rfl|rfl
 .exact Nat.le_add_right _ _
 .show(w.add 0 0 0 n).code.length<=_;grind
 .show(w.add 0 0 0 n).code.length<=_;grind
 .show w.We.2.code.length<=_;omega
 .show w.We.2.code.length<=_;omega
 .show w.We.2.We.2.code.length<=_;omega
 .show w.We.2.We.2.code.length<=_;omega
 .show w.We.2.code.length<=_;omega
 .show w.WN.2.code.length<=_;omega
 .show(w.go op n nx).code.length<=_;refine Wq504 ?_;show(((w.We.2.We.2.add 4 w.We.2.We.1 w.We.1 op).wfl w.We.2.We.2.here).add 3 w.We.2.We.1 w.We.1 op).code.length<=_;rw[hA];show(w.We.2.We.2.add 4 w.We.2.We.1 w.We.1 op).code.length+1<=_
  grind
 .subst hr;show(w.We.2.We.2.add 4 w.We.2.We.1 w.We.1 25).code.length<=_
  grind
 .exact Nat.le_add_right _ _
 .have h5:op=33\/op=34\/op=35\/op=36\/op=37:=by omega
  rcases h5 with rfl|rfl|rfl|rfl|rfl<;>exact Nat.le_add_right _ _
 .show(w.add 0 0 0 nx).code.length<=_;grind
 .show w.WN.2.code.length<=_;omega
 show w.We.2.code.length<=_;omega
theorem we:∀(l:List (Int×Int)) (pc:Int) (w:Lw) (q:Int×Lw),nP pc w l=some q->q.2.code.length<=w.code.length+4*l.length
 |[],pc,w,q,h=>by obtain rfl:(pc,w)=q:=ay h;grind
 |i::l,pc,w,q,h=>by
  obtain⟨-,h2, -,h4⟩:=lS h;have h5:=we l _ _ q h4
  grind [one_len,cF]
theorem O5(U:List Bool):∀(suf:List II) (i:Nat) (pl:Li) (c:List II),(nZ U suf i pl c).2.length<=c.length+suf.length
 :=by intro y1;induction y1<;>grind [nZ,pq]
theorem DW(U:List Bool):∀(suf:List II) (i:Nat) (pl:Li) (c:List II),ImC c->ImC suf->ImC (nZ U suf i pl c).2
 :=by intro y1;induction y1<;>grind [ImC,nZ,pq,lH]
def fO(W:Li)(from_ n:Nat):List Int:=(List.range n).map λk=>W.getD (from_+k) 0
def oZ(W:Li)(s:St):St:=⟨W.getD 0 0,fO W 4 (W.getD 2 0).toNat,fO W 20 (W.getD 3 0).toNat,W.getD 1 0,s.Wf,s.Wn,s.ie,s.root,s.vec,s.epc,s.Wg,s.addr,s.Wu,s.eie,IntKind.u64.wrap (s.count+W.getD 36 0),s.halted⟩
theorem CB{W D out:Li}{f:Nat}(hn:n=((D.length - k+out.length:Nat):Int))(hlow:∀i,i<D.length - k->W.getD (f+i) 0=D.getD i 0)(hnew:∀i,i<out.length->W.getD (f+(D.length - k)+i) 0=out.getD i 0):
  fO W f n.toNat=D.take (D.length - k)++out:=by
 subst hn;rw[aN];have hl:(D.take (D.length - k)).length=D.length - k:=by rw[aD];omega
 apply List.ext_getElem?
 grind [fO]
theorem GY{n:Nat}{U:Mmu}{d:Dev}(hU:UOk n U)(hdv:d.ok){s:St}(hwf:s.wf)(hr:s.right=true){l:List (Int×Int)}(hu:∀i,i∈l->u32 i.2){p:Pg}(hlow:fq s.pc l=some p)(hright:p.Ws=true){M:HM}{f:Nat}
  (j0:j0 (gl p (dW p)) f ⟨List.replicate 16 0,WW s,0⟩=((1,1),M)):
  LF l s (oZ M.words s)/\(oZ M.words s).wf/\(oZ M.words s).right=true/\V3 s (oZ M.words s) l.length/\1<=l.length/\l.length<=8/\M.words.getD 2 0<=16/\M.words.getD 3 0<=16/\M.words.getD 1 0<=15:=by
 obtain⟨hd16,hr16, -⟩:=St.fits hr;unfold fq at hlow;cases hlen:decide ((l.length:Int)<1)||decide (8<(l.length:Int))with
 |true=>grind
 |false=>
 rw[hlen,ah]at hlow;simp only[aS,aa]at hlen;have hl0:l≠[]:=λe=>by grind
 cases hgo:nP s.pc Lw.init l with
 |none=>grind
 |some q=>
 rw[hgo]at hlow;obtain⟨nx,w⟩:=q;obtain rfl:=ay hlow;obtain⟨lk, -,hnx⟩:=uJ l s.pc Lw.init _ hu hgo wc;have hnx:=hnx hl0;dsimp only at lk hnx;obtain⟨i,hi⟩:=Zgn (l.getLastD (0,0));rw[hi]at hright j0;obtain⟨p0,hp0⟩:=Zgn (AN nx w i l.length);rw[hp0]at hright j0;have f1:p0.code=w.code:=by rw[<-hp0];rfl
 have f2:p0.Wo=w.d.l:=by rw[<-hp0];rfl
 have f3:p0.Wp=w.r.l:=by rw[<-hp0];rfl
 have f4:p0.flags=w.flags:=by rw[<-hp0];rfl
 have f5:p0.target=w.target:=by rw[<-hp0];rfl
 have f6:p0.branch=w.branch:=by rw[<-hp0];rfl
 have raw:Raw p0:=⟨by rw[f1];exact lk.wf,by rw[f1];exact lk.ops,by simp_all [lk.d],by simp_all [lk.r],by simp_all [lk.flags],by simp_all [lk.target]⟩;have g1:(cG p0).Wc=w.d.Wi:=by rw[<-hp0];rfl
 have g2:(cG p0).Wd=w.r.Wi:=by rw[<-hp0];rfl
 have g3:(cG p0).WH=w.d.high:=by rw[<-hp0];rfl
 have g4:(cG p0).WK=w.r.high:=by rw[<-hp0];rfl
 have g5:(cG p0).next=bif i.1==32||i.1==38 then IntKind.u32.wrap (nx+ma i.2)else nx:=by rw[<-hp0];rfl
 have g6:(cG p0).taken=bif i.1==32||i.1==38 then 0 else bif w.branch !=0 then IntKind.u32.wrap (nx+ma i.2)else 0:=by rw[<-hp0];rfl
 have g7:(cG p0).branch=w.branch:=by rw[<-hp0];rfl
 have g8:(cG p0).count=l.length:=by rw[<-hp0];rfl
 have hlen4:=we l s.pc Lw.init _ hgo;have hlen5:w.code.length<=32:=by have:Lw.init.code.length=0:=rfl;dsimp only at hlen4;omega
 have hlen6:(cG p0).code.length<=64:=by
  exact Wq289
 have himc:ImC (cG p0).code:=DW (gt p0) p0.code 0 _ [] (λ_ h=>by cases h) (by rw[f1];exact lk.imm);have hn32:u32 (cG p0).next:=by rw[g5];cases i.1==32||i.1==38 with|true=>exact yB _|false=>exact hnx
 have ht32:u32 (cG p0).taken:=by
  have z:u32 0:=⟨by decide,by decide⟩;rw[g6];cases i.1==32||i.1==38 with
  |true=>exact z
  |false=>grind [yB]
 obtain⟨pok,pbt,pfl,ptg⟩:=vN hright himc hlen6 hn32 ht32;have hplan:QG (dW (cG p0)) (gg (cG p0)) (cG p0).code.length:=Nw (λi hi=>Ok (cG p0) hi) hlen6;have hgo2:HGo (gl (cG p0) (dW (cG p0))) 0 (gl (cG p0) (dW (cG p0))) (List.replicate 16 0) (WW s) M:=⟨List.drop_zero,by simp,Hs s,f,j0⟩;have left:=Ty pok hplan hr hwf hgo2;have li0:LI s.d s.r Lw.init s.d s.r:=⟨⟨Int.le_refl _,by show(0:Int)<=_;omega,by show s.d=s.d.take (s.d.length - (0:Int).toNat)++[];simp,λ_ h=>by cases h⟩,⟨Int.le_refl _,by show(0:Int)<=_;omega,by show s.r=s.r.take (s.r.length - (0:Int).toNat)++[];simp,λ_ h=>by cases h⟩⟩;have n1:=left.Wc;have n2:=left.Wd;have n3:=left.WH;have n4:=left.WK;rw[g1]at n1;rw[g2]at n2;rw[g3]at n3;rw[g4]at n4;obtain⟨s',c1,c2,c3,c4,c5,c6,c7,c8⟩:=Ig hU hdv hd16 hr16 l s Lw.init (nx,w) hl0 hu hgo hwf hr li0 (Or.inl ⟨rfl,rfl⟩) rfl rfl n1 n2 n3 n4;rw[hi]at c6 c8;dsimp only at c4 c5 c6 c8;obtain⟨V,hV⟩:=Zgn (WE s.d s.r (cG p0).code);have hmv:∀m,(m∈p0.Wo\/m∈p0.Wp\/m=p0.flags\/m=p0.target)->II.in_ m w.code->0<=(eL p0).1.getD m.toNat 0/\V.getD ((eL p0).1.getD m.toNat 0).toNat 0=ez s.d s.r w.code m:=λm h1 h2=>by
  have h3:=MR (D:=s.d) (R:=s.r) raw h1 bY;rw[f1]at h3;refine⟨h3.1.1,?_⟩;rw[<-hV];exact h3.2
 rw[hV]at left;have hoD:(cG p0).Wo=dY (eL p0).1 w.d.l:=by rw[<-f2];rfl
 have hoR:(cG p0).Wp=dY (eL p0).1 w.r.l:=by rw[<-f3];rfl
 have hfl:(cG p0).flags=ib (eL p0).1 w.flags:=by rw[<-f4];rfl
 have htg:(cG p0).target=ib (eL p0).1 w.target:=by rw[<-f5];rfl
 have hc3:=c3;obtain⟨-, -,fl15⟩:=St.fits c3;have hfl0:=c2.flags;have eF:(cG p0).Xs V s.flags=s'.flags:=by
  unfold Pg.Xs;rw[hfl];rcases c5 with⟨q1,q2⟩|⟨q1,q2⟩
  .rw[q1];exact q2.symm
  have hne:w.flags≠ -1:=by have:=q1.1;omega
  have h3:=hmv w.flags Wq1 q1;unfold ib;rw[show(w.flags != -1)=true by grind,ai,aE h3.1,ai,h3.2,<-q2];have:=hfl0.1;omega
 have ePc:(cG p0).Xh V s'.flags=s'.pc:=by
  rw[c6];unfold Pg.Xh sD;rw[htg,g5,g6,g7];rw[htg]at ptg pbt;rw[g7]at pbt;by_cases ht:w.target= -1
  .grind [ib,eL,dw]
  have hin:II.in_ w.target w.code:=by rcases lk.target with e|e;exact absurd e ht;exact e
  grind [ib,eL,dw]
 have Xx:(cG p0).Wo.length=w.d.l.length:=by rw[hoD];simp[dY]
 have lenR:(cG p0).Wp.length=w.r.l.length:=by rw[hoR];simp[dY]
 have outsEq:∀(L:Li),(∀m,m∈L->(m∈p0.Wo\/m∈p0.Wp\/m=p0.flags\/m=p0.target)/\II.in_ m w.code)->∀j,j<L.length->V.getD ((dY (eL p0).1 L).getD j 0).toNat 0=(L.map (ez s.d s.r w.code)).getD j 0:=λL hL j hj=>by
  grind [dY,eL,ez]
 have hLD:∀m,m∈w.d.l->(m∈p0.Wo\/m∈p0.Wp\/m=p0.flags\/m=p0.target)/\II.in_ m w.code:=λm hm=>⟨Or.inl bY,lk.d m hm⟩
 have hLR:∀m,m∈w.r.l->(m∈p0.Wo\/m∈p0.Wp\/m=p0.flags\/m=p0.target)/\II.in_ m w.code:=λm hm=>⟨Or.inr (Or.inl bY),lk.r m hm⟩
 have eD:fO M.words 4 (M.words.getD 2 0).toNat=s'.d:=by
  rw[c4.d.eq];have a1:=left.Xx;have a2:=left.lowD;have a3:=left.newD;rw[g1]at a1 a2 a3;rw[Xx]at a1 a3;refine CB bY a2 (λj hj=>?_);have hj:j<w.d.l.length:=by simpa using hj
  rw[a3 j hj,hoD];exact outsEq w.d.l hLD j hj
 have eR:fO M.words 20 (M.words.getD 3 0).toNat=s'.r:=by
  rw[c4.r.eq];have a1:=left.lenR;have a2:=left.lowR;have a3:=left.newR;rw[g2]at a1 a2 a3;rw[lenR]at a1 a3;refine CB bY a2 (λj hj=>?_);have hj:j<w.r.l.length:=by simpa using hj
  rw[a3 j hj,hoR];exact outsEq w.r.l hLR j hj
 have eS:oZ M.words s=s':=by
  unfold oZ;have hk:s'=_:=c7;rw[left.pc,left.flags,left.count,eF,ePc,eD,eR,g8];rw[hk]
 have hfit1:=left.fitD;have hfit2:=left.fitR;have hw2:=left.Xx;have hw3:=left.lenR;rw[eS];exact⟨c1,c2,c3,c7,by omega,by omega,by omega,by omega,by rw[left.flags,eF];omega⟩
end Go.Ink
