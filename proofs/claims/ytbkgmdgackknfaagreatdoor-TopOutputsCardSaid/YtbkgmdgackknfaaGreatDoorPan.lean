/- Lemmas. -/
import Derived.Test.YtbkgmdgackknfaaGreatDoorPak
import Derived.Test.YtbkgmdgackknfaaGreatDoorPam
set_option linter.unusedSimpArgs false
set_option linter.unusedVariables false
set_option maxRecDepth 100000
set_option maxHeartbeats 4000000
namespace Go.Ink
open Go.RowKit Go.Proofs.Tryz
def II.zero:II:=⟨0,0,0,0,0⟩
def iO(U:List Bool)(l:List Int):List Bool:=l.foldl (λU n=>bif n != -1 then U.set n.toNat true else U) U
def jQ(code:List II):Nat->List Bool->List Bool
 |0,U=>U
 |k+1,U=>jQ code k (bif U.getD k false&&ly (code.getD k II.zero)then iO U [(code.getD k II.zero).a,(code.getD k II.zero).b]else U)
def Hv(p:Pg):List Bool:=iO (iO (iO (List.replicate p.code.length false) p.RV) p.RX) [p.flags,p.target]
def gy(p:Pg):List Bool:=jQ p.code p.code.length (Hv p)
def o3(x:II)(pl:List Int)(n:Nat):II:=bif ly x then⟨x.op,n,pl.getD x.a.toNat 0,pl.getD x.b.toNat 0,x.imm⟩else⟨x.op,n,x.a,x.b,x.imm⟩
def nD(U:List Bool):List II->Nat->List Int->List II->List Int×List II
 |[],_,pl,c=>(pl,c)
 |x::suf,i,pl,c=>bif U.getD i false then nD U suf (i+1) (pl.set i (c.length:Int)) (c++[o3 x (pl.set i (c.length:Int)) c.length])else nD U suf (i+1) pl c
def dR(pl:List Int)(l:List Int):List Int:=l.map λn=>pl.getD n.toNat 0
def eK(p:Pg):List Int×List II:=nD (gy p) p.code 0 (List.replicate p.code.length 0) []
def ib(pl:List Int)(n:Int):Int:=bif n != -1 then pl.getD n.toNat 0 else n
def cA(p:Pg):Pg:=⟨(eK p).2,p.RI,p.RJ,p.Sn,p.Sq,dR (eK p).1 p.RV,dR (eK p).1 p.RX,ib (eK p).1 p.flags,p.next,ib (eK p).1 p.target,p.branch,p.taken,p.count,(eK p).2.length⟩
def WfC(code:List II):Prop:=∀(i:Nat) (x:II),code[i]? =some x->ly x=true->(0<=x.a/\x.a<i)/\(0<=x.b/\x.b<i)
abbrev us(U:List Bool)(n:Nat):Prop:=U.getD n false=true
theorem F0{U:List Bool}{j:Nat}(hj:j<U.length):(U.set j true).getD j false=true:=by grind
theorem getB_ne{U:List Bool}{i j:Nat}{b:Bool}(h:i≠j):(U.set i b).getD j false=U.getD j false:=by grind
theorem fQ:∀(l:List Int) (U:List Bool),(iO U l).length=U.length
 |[],_=>rfl
 |n::l,U=>by
  show(iO (bif n != -1 then U.set n.toNat true else U) l).length=_;rw[fQ l]
  grind
theorem oz:∀(l:List Int) (U:List Bool) (i:Nat),us U i->us (iO U l) i
 :=by intro y1;induction y1<;>grind [iO,F0,getB_ne]
theorem uh:∀(l:List Int) (U:List Bool) (n:Int),n∈l->0<=n->n.toNat<U.length->us (iO U l) n.toNat
 :=by intro y1;induction y1<;>grind [iO,oz,F0]
theorem xT:∀(l:List Int) (U:List Bool) (i:Nat),us (iO U l) i->us U i\/∃n,n∈l/\n≠ -1/\n.toNat=i
 |[],_,_,h=>Or.inl h
 |m::l,U,i,h=>by
  have h:us (iO (bif m != -1 then U.set m.toNat true else U) l) i:=h;rcases xT l _ i h with h|⟨n,h1,h2⟩
  .grind
  grind
theorem backTo_len(code:List II):∀(k:Nat) (U:List Bool),(jQ code k U).length=U.length
 :=by intro y1;induction y1<;>grind [jQ,ly,II.zero,fQ]
theorem wD(code:List II):∀(k:Nat) (U:List Bool) (i:Nat),us U i->us (jQ code k U) i
 :=by intro y1;induction y1<;>grind [jQ,ly,II.zero,oz]
theorem CG{code:List II}{k:Nat}(hk:k<code.length):code[k]? =some (code.getD k II.zero):=by grind
theorem wE{code:List II}(hw:WfC code):∀(k:Nat),k<=code.length->∀(U:List Bool) (i:Nat),k<=i->us (jQ code k U) i->us U i
 |0,_,_,_,_,h=>h
 |k+1,hk,U,i,hi,h=>by
  have h:us (jQ code k (bif U.getD k false&&ly (code.getD k II.zero)then iO U [(code.getD k II.zero).a,(code.getD k II.zero).b]else U)) i:=h;have h1:=wE hw k Wq1 _ i Wq1 h;cases hc:U.getD k false&&ly (code.getD k II.zero)with
  |false=>grind
  |true=>
   rw[hc,ai]at h1;obtain⟨ha,hb⟩:=hw k _ (CG Wq1) bR
   grind [xT]
theorem rc{code:List II}(hw:WfC code):∀(k:Nat),k<=code.length->∀(U:List Bool),U.length=code.length->∀(i:Nat),i<k->us (jQ code k U) i->ly (code.getD i II.zero)=true->us (jQ code k U) (code.getD i II.zero).a.toNat/\us (jQ code k U) (code.getD i II.zero).b.toNat
 |0,_,_,_,i,hi,_,_=>absurd hi Wq1
 |k+1,hk,U,hU,i,hi,h,hab=>by
  obtain⟨U',hU'⟩:∃U',(bif U.getD k false&&ly (code.getD k II.zero)then iO U [(code.getD k II.zero).a,(code.getD k II.zero).b]else U)=U':=⟨_,rfl⟩;have e:jQ code (k+1) U=jQ code k U':=by rw[<-hU'];rfl
  have hl:U'.length=code.length:=by
   rw[<-hU',<-hU];cases U.getD k false&&ly (code.getD k II.zero)with
   |true=>exact fQ _ _
   |false=>rfl
  rw[e]at h|-;by_cases hik:i=k
  .subst hik;have h1:=wE hw i Wq1 U' i (aL _) h;obtain⟨ha,hb⟩:=hw i _ (CG Wq1) hab
   grind [ly,II.zero,wD,uh]
  exact rc hw k Wq1 U' hl i Wq1 h hab
section
variable {D R:List Int}
structure FInv(U:List Bool)(code:List II)(i:Nat)(pl:List Int)(c:List II)(D R:List Int):Prop where
 len:pl.length=code.length
 val:∀n,n<i->us U n->II.in_ (pl.getD n 0) c/\ek D R c (pl.getD n 0)=ek D R code n
def WfO(code:List II):Prop:=∀(i:Nat) (x:II),code[i]? =some x->(x.op=0\/x.op=1\/x.op=2)\/ly x=true
theorem xq{V V':List Int}{x:II}(h:x.op=0\/x.op=1\/x.op=2)(y:II)(h1:y.op=x.op)(h2:y.imm=x.imm):lc D R V y=lc D R V' x:=by
 obtain⟨op,dst,a,b,imm⟩:=x;obtain⟨op2,dst2,a2,b2,imm2⟩:=y;dsimp only at h h1 h2;subst h1 h2;rcases h with rfl|rfl|rfl<;>rfl
theorem Bf{V V':List Int}{x y:II}(h1:y.op=x.op)(h2:y.imm=x.imm)(hx:ly x=true)(ha:V.getD y.a.toNat 0=V'.getD x.a.toNat 0)(hb:V.getD y.b.toNat 0=V'.getD x.b.toNat 0):lc D R V y=lc D R V' x:=by
 obtain⟨op,dst,a,b,imm⟩:=x;obtain⟨op2,dst2,a2,b2,imm2⟩:=y;dsimp only at h1 h2 ha hb;subst h1 h2;unfold ly at hx;simp only[Bool.or_eq_true,beq_iff_eq]at hx;rcases hx with rfl|rfl
 .show(jH imm2 (V.getD a2.toNat 0) (V.getD b2.toNat 0)).1=(jH imm2 (V'.getD a.toNat 0) (V'.getD b.toNat 0)).1;rw[ha,hb]
 show(jH imm2 (V.getD a2.toNat 0) (V.getD b2.toNat 0)).2.1=(jH imm2 (V'.getD a.toNat 0) (V'.getD b.toNat 0)).2.1;rw[ha,hb]
theorem Dn{code c:List II}{pl:List Int}{x:II}{n:Nat}(ho:(x.op=0\/x.op=1\/x.op=2)\/ly x=true)(ha:ly x=true->ek D R c (pl.getD x.a.toNat 0)=ek D R code x.a/\ek D R c (pl.getD x.b.toNat 0)=ek D R code x.b):
  lc D R (Si D R c) (o3 x pl n)=lc D R (Si D R code) x:=by
 rcases ho with ho|hx
 .grind [ly,o3,xq]
 have e:o3 x pl n=⟨x.op,n,pl.getD x.a.toNat 0,pl.getD x.b.toNat 0,x.imm⟩:=by unfold o3;rw[hx];rfl
 obtain⟨h1,h2⟩:=ha hx;rw[e];exact Bf rfl rfl hx h1 h2
theorem GL{code:List II}(hw:WfC code)(ho:WfO code){i:Nat}{x:II}(hx:code[i]? =some x):ek D R code i=lc D R (Si D R code) x:=by
 obtain⟨hi,hxe⟩:=aj.1 hx;have hsp:code=(code.take i++[x])++code.drop (i+1):=by rw[<-hxe,aw,List.singleton_append,<-List.drop_eq_getElem_cons hi,List.take_append_drop]
 have hl:(code.take i).length=i:=by rw[aI];omega
 have e1:ek D R code i=ek D R (code.take i++[x]) i:=by
  conv=>lhs;rw[hsp]
  exact g9 ⟨by omega,by grind⟩
 have e2:ek D R (code.take i++[x]) i=lc D R (Si D R (code.take i)) x:=by
  have:=kf (D:=D) (R:=R) (code.take i) x;rw[hl]at this;exact this
 rw[e1,e2];rcases ho i x hx with h|h
 .grind [xq]
 obtain⟨⟨a1,a2⟩,b1,b2⟩:=hw i x hx h;have hsp2:code=code.take i++code.drop i:=(List.take_append_drop i code).symm;have ea:ek D R code x.a=ek D R (code.take i) x.a:=by
  conv=>lhs;rw[hsp2]
  exact g9 ⟨a1,by omega⟩
 have eb:ek D R code x.b=ek D R (code.take i) x.b:=by
  conv=>lhs;rw[hsp2]
  exact g9 ⟨b1,by omega⟩
 exact Bf rfl rfl h ea.symm eb.symm
theorem LW{U:List Bool}{code:List II}(hw:WfC code)(ho:WfO code)(hcl:∀(i:Nat) (x:II),code[i]? =some x->us U i->ly x=true->us U x.a.toNat/\us U x.b.toNat):∀(suf:List II) (i:Nat) (pl:List Int) (c:List II),code.drop i=suf->i<=code.length->
  FInv U code i pl c D R->FInv U code code.length (nD U suf i pl c).1 (nD U suf i pl c).2 D R
 |[],i,pl,c,hs,hi,h=>by
  have:code.length=i:=by
   have:=congrArg List.length hs;rw[List.length_drop]at this;simp at this;omega
  rw[this];exact h
 |x::suf,i,pl,c,hs,hi,h=>by
  have hil:i<code.length:=by
   have:=congrArg List.length hs;rw[List.length_drop]at this;simp at this;omega
  have hx:code[i]? =some x:=by rw[List.drop_eq_getElem_cons hil]at hs;injection hs with h1 h2;rw[aa hil,h1]
  have hs':code.drop (i+1)=suf:=by rw[List.drop_eq_getElem_cons hil]at hs;injection hs
  cases hu:U.getD i false with
  |false=>
   have e:nD U (x::suf) i pl c=nD U suf (i+1) pl c:=by show(bif U.getD i false then _ else _)=_;rw[hu];rfl
   rw[e];refine LW hw ho hcl suf (i+1) pl c hs' Wq1 ⟨h.len,λn hn hun=>?_⟩;by_cases en:n=i
   .grind
   exact h.val n Wq1 hun
  |true=>
   have e:nD U (x::suf) i pl c=nD U suf (i+1) (pl.set i (c.length:Int)) (c++[o3 x (pl.set i (c.length:Int)) c.length]):=by show(bif U.getD i false then _ else _)=_;rw[hu];rfl
   rw[e];refine LW hw ho hcl suf (i+1) _ _ hs' Wq1 ⟨by simp[h.len],λn hn hun=>?_⟩;have hlen:=h.len;by_cases en:n=i
   .subst en;rw[cR Wq1];refine⟨oS _ _,?_⟩;rw[kf,GL hw ho hx];refine Dn (ho n x hx) (λhab=>?_);obtain⟨⟨a1,a2⟩,b1,b2⟩:=hw n x hx hab;obtain⟨ua,ub⟩:=hcl n x hx hu hab;have ea:((x.a.toNat:Nat):Int)=x.a:=by omega
    have eb:((x.b.toNat:Nat):Int)=x.b:=by omega
    have ha:=(h.val x.a.toNat Wq1 ua).2;have hb:=(h.val x.b.toNat Wq1 ub).2
    grind
   obtain⟨h1,h2⟩:=h.val n Wq1 hun
   grind [cK,sT,g9]
structure Raw(p:Pg):Prop where
 wf:WfC p.code
 ops:WfO p.code
 RV:∀n,n∈p.RV->II.in_ n p.code
 RX:∀n,n∈p.RX->II.in_ n p.code
 flags:p.flags= -1\/II.in_ p.flags p.code
 target:p.target= -1\/II.in_ p.target p.code
theorem JN{p:Pg}(h:Raw p){n:Int}(hn:n∈p.RV\/n∈p.RX\/n=p.flags\/n=p.target)(h0:II.in_ n p.code):
  II.in_ ((eK p).1.getD n.toNat 0) (eK p).2/\ek D R (eK p).2 ((eK p).1.getD n.toNat 0)=ek D R p.code n:=by
 have hl0:(Hv p).length=p.code.length:=by unfold Hv;rw[fQ,fQ,fQ,aE]
 have hcl:∀(i:Nat) (x:II),p.code[i]? =some x->us (gy p) i->ly x=true->us (gy p) x.a.toNat/\us (gy p) x.b.toNat:=λi x hx hu hab=>by
  have hi:i<p.code.length:=(aj.1 hx).1;have e:p.code.getD i II.zero=x:=by rw[List.getD_eq_getElem?_getD,hx];rfl
  have:=rc h.wf p.code.length (aL _) (Hv p) hl0 i hi hu bR;rw[e]at this;exact this
 have hF:=LW (D:=D) (R:=R) (U:=gy p) h.wf h.ops hcl p.code 0 (List.replicate p.code.length 0) [] cH (au _) ⟨by simp,λn hn=>absurd hn Wq1⟩;obtain⟨i0,i1⟩:=h0;have en:((n.toNat:Nat):Int)=n:=by omega
 have hu:us (gy p) n.toNat:=by
  refine wD p.code p.code.length _ _ ?_;unfold Hv;rcases hn with hn|hn|hn
  .grind [oz,uh]
  .grind [oz,uh,fQ]
  grind [uh,fQ]
 have:=hF.val n.toNat Wq1 hu;rw[en]at this;exact this
end
def ImC(code:List II):Prop:=∀x,x∈code->0<=x.imm/\x.imm<=4294967295
structure mR(w:Lw):Prop where
 d:∀n,n∈w.d.l->II.in_ n w.code
 r:∀n,n∈w.r.l->II.in_ n w.code
 wf:WfC w.code
 ops:WfO w.code
 flags:w.flags= -1\/II.in_ w.flags w.code
 target:w.target= -1\/II.in_ w.target w.code
 imm:ImC w.code
theorem ImC.snoc{c:List II}{x:II}(h:ImC c)(hx:0<=x.imm/\x.imm<=4294967295):ImC (c++[x]):=λy hy=>by
 rcases aF.1 hy with h1|h1
 .exact h y h1
 grind
theorem WfC.snoc{c:List II}{x:II}(h:WfC c)(hx:ly x=true->(0<=x.a/\x.a<c.length)/\(0<=x.b/\x.b<c.length)):WfC (c++[x]):=λi y hy hab=>by
 by_cases hi:i<c.length
 .rw[aZ hi]at hy;exact h i y hy hab
 grind
theorem WfO.snoc{c:List II}{x:II}(h:WfO c)(hx:(x.op=0\/x.op=1\/x.op=2)\/ly x=true):WfO (c++[x]):=λi y hy=>by
 by_cases hi:i<c.length
 .rw[aZ hi]at hy;exact h i y hy
 grind
theorem Ki{k:Int}(hk:k=1\/k=2){c:List II}{s:Sd}(h:∀n,n∈s.l->II.in_ n c)(hw:WfC c)(ho:WfO c)(hm_:ImC c):
  II.in_ (fe k c s).1 (fe k c s).2.1/\(∀n,n∈(fe k c s).2.2.l->II.in_ n (fe k c s).2.1)/\WfC (fe k c s).2.1/\WfO (fe k c s).2.1/\ImC (fe k c s).2.1/\∃e,(fe k c s).2.1=c++e:=by
 unfold fe;cases hl:s.l.getLast? with
 |some n=>
  obtain⟨m,hm⟩:∃m,s.l=m++[n]:=List.getLast?_eq_some_iff.1 hl
  simp_all
 |none=>
  refine⟨oS _ _,λj hj=>(by cases hj),hw.snoc (λhab=>?_),ho.snoc (Or.inl ?_),hm_.snoc (by grind [IntKind.wrap_u32]),_,rfl⟩
  .rcases hk with rfl|rfl<;>cases hab
  grind
theorem H5{c c':List II}{n:Int}(h:II.in_ n c)(he:∃e,c'=c++e):II.in_ n c':=by grind [sT]
theorem Hl{c c':List II}{n:Int}(h:n= -1\/II.in_ n c)(he:∃e,c'=c++e):n= -1\/II.in_ n c':=by grind [H5]
theorem mR.RK{w:Lw}(h:mR w):mR w.RK.2/\II.in_ w.RK.1 w.RK.2.code/\∃e,w.RK.2.code=w.code++e:=by
 obtain⟨h1,h2,h3,h4,h6,h5⟩:=Ki (k:=1) (Or.inl rfl) h.d h.wf h.ops h.imm;exact⟨⟨h2,λn hn=>H5 (h.r n hn) h5,h3,h4,Hl h.flags h5,Hl h.target h5,h6⟩,h1,h5⟩
theorem mR.Su{w:Lw}(h:mR w):mR w.Su.2/\II.in_ w.Su.1 w.Su.2.code/\∃e,w.Su.2.code=w.code++e:=by
 obtain⟨h1,h2,h3,h4,h6,h5⟩:=Ki (k:=2) (Or.inr rfl) h.r h.wf h.ops h.imm;exact⟨⟨λn hn=>H5 (h.d n hn) h5,h2,h3,h4,Hl h.flags h5,Hl h.target h5,h6⟩,h1,h5⟩
theorem mR.pop2{w:Lw}(h:mR w):mR w.RK.2.RK.2/\II.in_ w.RK.1 w.RK.2.RK.2.code/\II.in_ w.RK.2.RK.1 w.RK.2.RK.2.code:=by
 obtain⟨h1,h2, -⟩:=h.RK;obtain⟨k1,k2,k3⟩:=h1.RK
 grind [H5]
theorem mR.SF{w:Lw}(h:mR w)(l:List Int)(hl:∀n,n∈l->II.in_ n w.code):mR (w.SF l):=⟨λn hn=>by rcases aF.1 hn with q|q;exact h.d n q;exact hl n q,h.r,h.wf,h.ops,h.flags,h.target,h.imm⟩
theorem mR.S9{w:Lw}(h:mR w)(l:List Int)(hl:∀n,n∈l->II.in_ n w.code):mR (w.S9 l):=⟨h.d,λn hn=>by rcases aF.1 hn with q|q;exact h.r n q;exact hl n q,h.wf,h.ops,h.flags,h.target,h.imm⟩
theorem mR.add{w:Lw}(h:mR w)(op a b imm:Int)(him:0<=imm/\imm<=4294967295)(ho:op=0\/((op=3\/op=4)/\II.in_ a w.code/\II.in_ b w.code)):mR (w.add op a b imm)/\II.in_ w.here (w.add op a b imm).code:=by
 have he:∃e,(w.add op a b imm).code=w.code++e:=⟨_,rfl⟩;refine⟨⟨λn hn=>H5 (h.d n hn) he,λn hn=>H5 (h.r n hn) he,h.wf.snoc (λhab=>?_),h.ops.snoc ?_,Hl h.flags he,Hl h.target he,h.imm.snoc him⟩,oS _ _⟩
 .rcases ho with rfl|⟨-,⟨a1,a2⟩,b1,b2⟩
  .cases hab
  grind
 rcases ho with rfl|⟨rfl|rfl, -⟩
 .grind
 .exact Or.inr rfl
 exact Or.inr rfl
theorem mR.RR{w:Lw}(h:mR w):mR w.RR:=⟨h.d,h.r,h.wf,h.ops,h.flags,h.target,h.imm⟩
theorem mR.wfl{w:Lw}(h:mR w){x:Int}(hx:II.in_ x w.code):mR (w.wfl x):=⟨h.d,h.r,h.wf,h.ops,Or.inr hx,h.target,h.imm⟩
theorem mR.wtg{w:Lw}(h:mR w){x:Int}(hx:II.in_ x w.code):mR (w.wtg x):=⟨h.d,h.r,h.wf,h.ops,h.flags,Or.inr hx,h.imm⟩
theorem mR.wbr{w:Lw}(h:mR w)(x:Int):mR (w.wbr x):=⟨h.d,h.r,h.wf,h.ops,h.flags,h.target,h.imm⟩
theorem OK{op:Int}(hp:dr op=true){w:Lw}(h:mR w){n nx:Int}(hn:u32 n)(hnx:u32 nx):mR (w.one op n nx):=by
 refine mR.RR ?_;have sing:∀{c:List II} {x:Int},II.in_ x c->∀n,n∈[x]->II.in_ n c:=λhx n hn=>by grind
 obtain⟨d1,d2,d3⟩:=h.RK;obtain⟨r1,r2,r3⟩:=h.Su;obtain⟨p1,p2,p3⟩:=h.pop2;rcases qs hp with rfl|rfl|rfl|rfl|rfl|rfl|rfl|rfl|rfl|hr|hr|rfl|hr|rfl|rfl|rfl
 .exact h
 .exact(h.add 0 0 0 n hn (Or.inl rfl)).1.SF _ (sing (h.add 0 0 0 n hn (Or.inl rfl)).2)
 .exact(h.add 0 0 0 n hn (Or.inl rfl)).1.SF _ (sing (h.add 0 0 0 n hn (Or.inl rfl)).2)
 .exact d1.SF _ (λn hn=>by grind)
 .exact d1
 .exact p1.SF _ (λn hn=>by grind)
 .exact p1.SF _ (λn hn=>by grind)
 .exact d1.S9 _ (sing d2)
 .exact r1.SF _ (sing r2)
 .rw[lJ (Or.inl hr)];unfold Lw.reckon;rw[show(op !=25)=true by simp;omega];obtain⟨a1,a2⟩:=p1.add 4 w.RK.2.RK.1 w.RK.1 op Wq1 (Or.inr ⟨Or.inr rfl,p3,p2⟩);obtain⟨b1,b2⟩:=(a1.wfl a2).add 3 w.RK.2.RK.1 w.RK.1 op Wq1 (Or.inr ⟨Or.inl rfl,sT _ p3,sT _ p2⟩);exact b1.SF _ (sing b2)
 .rw[lJ (Or.inr hr)];subst hr;obtain⟨a1,a2⟩:=p1.add 4 w.RK.2.RK.1 w.RK.1 25 Wq1 (Or.inr ⟨Or.inr rfl,p3,p2⟩);exact a1.wfl a2
 .exact h
 .have h5:op=33\/op=34\/op=35\/op=36\/op=37:=by omega
  rcases h5 with rfl|rfl|rfl|rfl|rfl<;>exact h.wbr _
 .exact(h.add 0 0 0 nx hnx (Or.inl rfl)).1.S9 _ (sing (h.add 0 0 0 nx hnx (Or.inl rfl)).2)
 .exact r1.wtg r2
 exact d1.wtg d2
def Lw.init:Lw:=⟨[],⟨[],0,0⟩,⟨[],0,0⟩, -1, -1,0⟩
def nu(pc:Int)(w:Lw):List (Int×Int)->Option (Int×Lw)
 |[]=>some (pc,w)
 |i::l=>bif(!gV i.1 i.2|| !dr i.1)||(fx i.1&& !l.isEmpty)then none else nu (IntKind.u32.wrap (pc+IntKind.u32.wrap (cy i.1))) (w.one i.1 i.2 (IntKind.u32.wrap (pc+IntKind.u32.wrap (cy i.1)))) l
def zw(nx:Int)(w:Lw)(i:Int×Int)(n:Nat):Pg:=
 ⟨w.code,w.d.RL,w.r.RL,w.d.high,w.r.high,w.d.l,w.r.l,w.flags,bif i.1==32||i.1==38 then IntKind.u32.wrap (nx+lP i.2)else nx,w.target,w.branch,bif i.1==32||i.1==38 then 0 else bif w.branch !=0 then IntKind.u32.wrap (nx+lP i.2)else 0,n,w.code.length⟩
def fg(pc:Int)(l:List (Int×Int)):Option Pg:=
 bif decide ((l.length:Int)<1)||decide (8<(l.length:Int))then none else
 match nu pc Lw.init l with
 |none=>none
 |some (nx,w)=>some (cA (zw nx w (l.getLastD (0,0)) l.length))
theorem vC:mR Lw.init:=⟨λ_ h=>(by cases h),λ_ h=>(by cases h),λ_ _ h=>(by cases h),λ_ _ h=>(by cases h),Or.inl rfl,Or.inl rfl,λ_ h=>(by cases h)⟩
theorem lH{pc:Int}{w:Lw}{i:Int×Int}{l:List (Int×Int)}{q:Int×Lw}(h:nu pc w (i::l)=some q):
  gV i.1 i.2=true/\dr i.1=true/\(l≠[]->fx i.1=false)/\nu (IntKind.u32.wrap (pc+IntKind.u32.wrap (cy i.1))) (w.one i.1 i.2 (IntKind.u32.wrap (pc+IntKind.u32.wrap (cy i.1)))) l=some q:=by
 have h:(bif(!gV i.1 i.2|| !dr i.1)||(fx i.1&& !l.isEmpty)then none else nu (IntKind.u32.wrap (pc+IntKind.u32.wrap (cy i.1))) (w.one i.1 i.2 (IntKind.u32.wrap (pc+IntKind.u32.wrap (cy i.1)))) l)=some q:=h
 grind
theorem xu(x:Int):u32 (IntKind.u32.wrap x):=by grind [u32,IntKind.wrap_u32]
theorem uj:∀(l:List (Int×Int)) (pc:Int) (w:Lw) (q:Int×Lw),(∀i,i∈l->u32 i.2)->nu pc w l=some q->mR w->mR q.2/\jI w q.2/\(l≠[]->u32 q.1)
 |[],pc,w,q,_,h,hw=>by obtain rfl:(pc,w)=q:=ax h;grind [jI.refl]
 |i::l,pc,w,q,hu,h,hw=>by
  obtain⟨-,h2, -,h4⟩:=lH h;obtain⟨k1,k2,k3⟩:=uj l _ _ q (λj hj=>hu j (List.mem_cons_of_mem _ hj)) h4 (OK h2 hw (hu i cH) (xu _));refine⟨k1,(BQ h2 w _ _).trans k2,λ_=>?_⟩;cases l with
  |nil=>obtain rfl:=ax h4;exact xu _
  |cons j l=>grind
theorem MI{b:Bool}{x y:Run}(hx:x.device=false)(hy:y.device=false):(bif b then x else y).device=false:=by grind
section
variable {n:Nat} {op nn:Int} {s:St} {U:Mmu} {d:Dev}
theorem Ks(h:dr op=true):∃R:Run,R.device=false/\iB n s op nn U d=⟨R,U,d⟩/\BW s op nn=R:=by
 have hc:op=0\/op=1\/op=2\/op=3\/op=4\/op=5\/op=6\/op=7\/op=8\/op=16\/op=17\/op=18\/op=19\/op=20\/op=21\/op=22\/op=23\/op=25\/op=32\/op=33\/op=34\/op=35\/op=36\/op=37\/op=38\/op=39\/op=40:=by
  rcases ja h with h|h|h|h<;>omega
 rcases hc with rfl|rfl|rfl|rfl|rfl|rfl|rfl|rfl|rfl|rfl|rfl|rfl|rfl|rfl|rfl|rfl|rfl|rfl|rfl|rfl|rfl|rfl|rfl|rfl|rfl|rfl|rfl<;>
  first
  |exact⟨_,rfl,rfl,rfl⟩
  |exact⟨_,MI rfl rfl,rfl,rfl⟩
  |(refine⟨_,?_,rfl,rfl⟩;exact MI (b:=(jH _ (eP s _).pop.top (eP s _).top).2.2) (x:=(eP s _).pop.pop) (y:=(eP s _).pop.pop.wt ⟨5,0⟩) rfl rfl)
theorem Fv(h:dr op=true)(hr:s.right=true):pG n s op nn U d=(doN s op nn,⟨U.m.calm,U.t⟩,d)/\(doN s op nn).device=false/\(doN s op nn).RG=[]:=by
 obtain⟨R,h1,h2,h3⟩:=Ks (n:=n) (s:=s) (nn:=nn) (U:=⟨U.m.calm,U.t⟩) (d:=d) h;unfold pG doN;rw[hr,h2,h3];simp only[Bool.not_true,ah];cases(eu s op nn !=0)with
 |true=>grind
 |false=>
  simp only[ah];have e:we s ⟨R,⟨U.m.calm,U.t⟩,d⟩=Rs s R:=by
   unfold we Rs;rw[show ii U.m.calm.RQ 64=[]from GP]
  grind [Rs]
theorem DL(h:dr op=true)(hw:s.wf)(hr:s.right=true)(hnn:u32 nn)(hU:UOk n U)(hd:d.ok):(doN s op nn).s.wf/\(doN s op nn).s.right=true:=by
 have hg:=wj (op:=op) (nn:=nn) hw hr hnn hU hd;rw[(Fv (n:=n) (nn:=nn) (U:=U) (d:=d) h hr).1]at hg;exact⟨hg.wf,hg.right⟩
end
inductive IW:List (Int×Int)->St->St->Prop
 |nil (s:St):IW [] s s
 |cons {op nn:Int} {l:List (Int×Int)} {s s1 s2:St} (hp:dr op=true) (hr:s.right=true) (h:doN s op nn=⟨s1,false,false,[]⟩) (hm:l≠[]->fx op=false/\s1.pc=dQ s op) (k:IW l s1 s2):IW ((op,nn)::l) s s2
def RE(s s':St)(k:Nat):Prop:=s'=⟨s'.pc,s'.d,s'.r,s'.flags,s.RM,s.RW,s.ie,s.root,s.vec,s.epc,s.RN,s.addr,s.Sa,s.eie,IntKind.u64.wrap (s.count+k),s.halted⟩
theorem RE.trans{a b c:St}{j:Nat}(h:RE a b 1)(k:RE b c j):RE a c (j+1):=by
 grind [RE,IntKind.wrap_u64]
theorem Mh{op:Int}(hp:dr op=true)(h:fx op=false):op<32:=by
 unfold fx at h;simp only[Bool.or_eq_false_iff,Bool.and_eq_false_iff,ac]at h;rcases ja hp with q|q|q|q<;>omega
theorem FH{n:Nat}{U:Mmu}{d:Dev}(hU:UOk n U)(hdv:d.ok){D R:List Int}{f0:Int}(hD:D.length<=16)(hR:R.length<=16):∀(l:List (Int×Int)) (s:St) (w:Lw) (q:Int×Lw),l≠[]->(∀i,i∈l->u32 i.2)->nu s.pc w l=some q->s.wf->s.right=true->
  LI D R w s.d s.r->FL D R f0 w s.flags->w.target= -1->w.branch=0->q.2.d.RL<=(D.length:Int)->q.2.r.RL<=(R.length:Int)->(D.length:Int)+q.2.d.high<=16->(R.length:Int)+q.2.r.high<=16->
  ∃s',IW l s s'/\s'.wf/\s'.right=true/\LI D R q.2 s'.d s'.r/\FL D R f0 q.2 s'.flags/\s'.pc=ss D R q.2 (l.getLastD (0,0)).1 (l.getLastD (0,0)).2 q.1 s'.flags/\RE s s' l.length/\(((l.getLastD (0,0)).1==32||(l.getLastD (0,0)).1==38)=true->q.2.branch=0)
 |[],_,_,_,hl,_,_,_,_,_,_,_,_,_,_,_,_=>absurd rfl hl
 |(op,nn)::l,s,w,q,hl,hu,h,hwf,hr,hli,hfl,htg,hbr,n1,n2,g1,g2=>by
  obtain⟨h1,h2,h3,h4⟩:=lH h;dsimp only at h1 h2 h3 h4;have hm:jI (w.one op nn (dQ s op)) q.2:=by
   have:∀(l:List (Int×Int)) (pc:Int) (w:Lw) (q:Int×Lw),nu pc w l=some q->jI w q.2:=by
    intro l
    induction l with
    |nil=>intro pc w q h;obtain rfl:(pc,w)=q:=ax h;exact jI.refl _
    |cons i l ih=>intro pc w q h;obtain⟨-,h2, -,h4⟩:=lH h;exact(BQ h2 w _ _).trans (ih _ _ _ h4)
   exact this l _ _ q h4
  have hnn:u32 nn:=hu (op,nn) cH;obtain⟨s1,hs⟩:=one_ok (nn:=nn) h2 h1 hr hli hfl hD hR htg hbr (Int.le_trans hm.nd n1) (Int.le_trans hm.nr n2) (by have:=hm.hd;omega) (by have:=hm.hr;omega);have hgo:=DL (nn:=nn) h2 hwf hr hnn hU hdv;rw[hs.did]at hgo;have hk1:RE s s1 1:=hs.rest;cases l with
  |nil=>
   obtain rfl:(dQ s op,w.one op nn (dQ s op))=q:=ax h4;exact⟨s1,.cons h2 hr hs.did (λe=>absurd rfl e) (.nil s1),hgo.1,hgo.2,hs.li,hs.fl,hs.pc,hk1,λhe=>(by
    have he:(op==32||op==38)=true:=he;simp only[Bool.or_eq_true,beq_iff_eq]at he;rcases he with rfl|rfl<;>exact hbr)⟩
  |cons j l=>
   have he:=h3 cH;have hlt:=Mh h2 he;obtain⟨t1,b1⟩:=hs.going hlt;have hpc:s1.pc=dQ s op:=hs.pc.trans (uv b1 t1 (by
    grind))
   have h4:nu s1.pc (w.one op nn (dQ s op)) (j::l)=some q:=by rw[hpc];exact h4
   obtain⟨s',c1,c2,c3,c4,c5,c6,c7,c8⟩:=FH hU hdv hD hR (j::l) s1 (w.one op nn (dQ s op)) q cH (λi hi=>hu i (List.mem_cons_of_mem _ hi)) h4 hgo.1 hgo.2 hs.li hs.fl t1 b1 n1 n2 g1 g2;exact⟨s',.cons h2 hr hs.did (λ_=>⟨he,hpc⟩) c1,c2,c3,c4,c5,c6,hk1.trans c7,c8⟩
def tf(n at_:Int):Bool:=decide (0<=n)&&decide (n<at_)
def wm(l:List Int):Bool:=l.all λn=>decide (0<=n)&&decide (n<=16)
def kw(RI RJ:Int)(i:Nat)(x:II):Bool:=
 bif x.dst !=i then false else
 bif x.op==0 then x.a==0&&x.b==0 else
 bif x.op==1 then(x.a==0&&x.b==0)&&decide (x.imm<RI)else
 bif x.op==2 then(x.a==0&&x.b==0)&&decide (x.imm<RJ)else
 bif x.op==3 then((tf x.a i&&tf x.b i)&&decide (16<=x.imm))&&decide (x.imm<=23)else
 bif x.op==4 then(tf x.a i&&tf x.b i)&&((decide (16<=x.imm)&&decide (x.imm<=23))||x.imm==25)else false
def jf(RI RJ:Int):List II->Nat->Bool
 |[],_=>true
 |x::c,i=>kw RI RJ i x&&jf RI RJ c (i+1)
def Pg.SH(p:Pg):Bool:=wm [p.RI,p.RJ,p.Sn,p.Sq]&&(!decide (p.count<1)&& !decide (8<p.count))
def Pg.SG(p:Pg):Bool:=
 (!((p.flags != -1&& !tf p.flags p.code.length)||(p.target != -1&& !tf p.target p.code.length)))&&(p.branch==0||((decide (33<=p.branch)&&decide (p.branch<=37))&&p.target== -1))
def Pg.R7(p:Pg):Bool:=p.SH&&(jf p.RI p.RJ p.code 0&&((p.RV.all λn=>tf n p.code.length)&&((p.RX.all λn=>tf n p.code.length)&&p.SG)))
def dP(p:Pg):Pl:=jr (gl p) 7 p.code.length p.code.length
theorem yC{RI RJ:Int}:∀(c:List II) (i:Nat),jf RI RJ c i=true->∀(j:Nat) (x:II),c[j]? =some x->kw RI RJ (i+j) x=true
 :=by intro y1;induction y1<;>grind [kw,jf]
theorem made_ok{RI RJ:Int}{i:Nat}{x:II}(h:kw RI RJ i x=true)(him:0<=x.imm/\x.imm<=4294967295):x.ok RI RJ i:=by
 obtain⟨op,dst,a,b,imm⟩:=x;unfold kw at h;dsimp only at h him;cases h0:dst !=(i:Int)with
 |true=>grind
 |false=>
 rw[h0,ah]at h;cases c0:op==0 with
 |true=>exact⟨him,Or.inl bR,λhab=>by grind⟩
 |false=>
 rw[c0,ah]at h;cases c1:op==1 with
 |true=>
  rw[c1,ai]at h;simp only[aD,ae,beq_iff_eq]at h c1;exact⟨him,Or.inr (Or.inl ⟨c1,h.2⟩),λhab=>by grind⟩
 |false=>
 rw[c1,ah]at h;cases c2:op==2 with
 |true=>
  rw[c2,ai]at h;simp only[aD,ae,beq_iff_eq]at h c2;exact⟨him,Or.inr (Or.inr (Or.inl ⟨c2,h.2⟩)),λhab=>by grind⟩
 |false=>
 rw[c2,ah]at h;cases c3:op==3 with
 |true=>
  rw[c3,ai]at h;simp only[tf,aD,ae,beq_iff_eq]at h c3;exact⟨him,Or.inr (Or.inr (Or.inr (Or.inl ⟨c3,h.1.2,h.2⟩))),λ_=>⟨h.1.1.1,h.1.1.2⟩⟩
 |false=>
 rw[c3,ah]at h;cases c4:op==4 with
 |true=>
  rw[c4,ai]at h;simp only[tf,aD,Bool.or_eq_true,ae,beq_iff_eq]at h c4;exact⟨him,Or.inr (Or.inr (Or.inr (Or.inr ⟨c4,h.2⟩))),λ_=>⟨h.1.1,h.1.2⟩⟩
 |false=>grind
theorem vd{p:Pg}(h:p.R7=true)(him:ImC p.code)(hn:p.code.length<=64)(hnx:u32 p.next)(htk:u32 p.taken):PgOk p (gl p)/\(p.branch≠0->p.target= -1)/\(p.flags= -1\/0<=p.flags)/\(p.target= -1\/0<=p.target):=by
 unfold Pg.R7 Pg.SH Pg.SG wm at h;simp only[aD,Bool.not_eq_true',Bool.or_eq_true,Bool.or_eq_false_iff,Bool.and_eq_false_iff,ae,ac,List.all_cons,List.all_nil,aY,beq_iff_eq,bne_eq_false_iff_eq,Bool.not_eq_false',tf]at h;obtain⟨⟨⟨d1,d2,d3,d4, -⟩,c1,c2⟩,hm,hoD,hoR,⟨hf,ht⟩,hb⟩:=h;have hok:OkC p.RI p.RJ p.code:=λn x hx=>by
  have:=yC p.code 0 hm n x hx;rw[Nat.zero_add]at this;exact made_ok this (him x (ak hx))
 refine⟨⟨hok,λn x hx ho=>?_,λn hn=>⟨(hoD n hn).1,(hoD n hn).2,qK p (Or.inl hn) (hoD n hn)⟩,λn hn=>⟨(hoR n hn).1,(hoR n hn).2,qK p (Or.inr (Or.inl hn)) (hoR n hn)⟩,λh0=>?_,λh0=>?_,?_,hn,d1,d2,d3,d4,hnx,htk,by omega⟩,?_,?_,?_⟩
 .have hl:=(aj.1 hx).1;obtain⟨a,b⟩:=(hok n x hx).ab ho;exact K8 p hx (by grind [ly]) ⟨a.1,by omega⟩ ⟨b.1,by omega⟩
 .have hf:0<=p.flags/\p.flags<p.code.length:=by rcases hf with e|e;omega;exact e
  exact⟨hf.2,qK p (Or.inr (Or.inr (Or.inl rfl))) hf⟩
 .have ht:0<=p.target/\p.target<p.code.length:=by rcases ht with e|e;omega;exact e
  exact⟨ht.2,qK p (Or.inr (Or.inr (Or.inr rfl))) ht⟩
 .omega
 .omega
 .omega
 omega
theorem zz(k:Int)(c:List II)(s:Sd):(fe k c s).2.1.length<=c.length+1:=by
 grind [fe]
theorem one_len{op:Int}(hp:dr op=true)(w:Lw)(n nx:Int):(w.one op n nx).code.length<=w.code.length+4:=by
 have hD:w.RK.2.code.length<=w.code.length+1:=zz 1 w.code w.d;have hR:w.Su.2.code.length<=w.code.length+1:=zz 2 w.code w.r;have hP:w.RK.2.RK.2.code.length<=w.code.length+2:=aN (zz 1 w.RK.2.code w.RK.2.d) Wq1;have hA:∀(v:Lw) (a b c d:Int),(v.add a b c d).code.length=v.code.length+1:=λv a b c d=>by simp[Lw.add]
 rcases qs hp with rfl|rfl|rfl|rfl|rfl|rfl|rfl|rfl|rfl|hr|hr|rfl|hr|rfl|rfl|rfl
 .exact Nat.le_add_right _ _
 .show(w.add 0 0 0 n).code.length<=_;grind
 .show(w.add 0 0 0 n).code.length<=_;grind
 .show w.RK.2.code.length<=_;omega
 .show w.RK.2.code.length<=_;omega
 .show w.RK.2.RK.2.code.length<=_;omega
 .show w.RK.2.RK.2.code.length<=_;omega
 .show w.RK.2.code.length<=_;omega
 .show w.Su.2.code.length<=_;omega
 .show(w.go op n nx).code.length<=_;rw[lJ (Or.inl hr)];unfold Lw.reckon;rw[show(op !=25)=true by simp;omega];show(((w.RK.2.RK.2.add 4 w.RK.2.RK.1 w.RK.1 op).wfl w.RK.2.RK.2.here).add 3 w.RK.2.RK.1 w.RK.1 op).code.length<=_;rw[hA];show(w.RK.2.RK.2.add 4 w.RK.2.RK.1 w.RK.1 op).code.length+1<=_
  grind
 .subst hr;show(w.RK.2.RK.2.add 4 w.RK.2.RK.1 w.RK.1 25).code.length<=_
  grind
 .exact Nat.le_add_right _ _
 .have h5:op=33\/op=34\/op=35\/op=36\/op=37:=by omega
  rcases h5 with rfl|rfl|rfl|rfl|rfl<;>exact Nat.le_add_right _ _
 .show(w.add 0 0 0 nx).code.length<=_;grind
 .show w.Su.2.code.length<=_;omega
 show w.RK.2.code.length<=_;omega
theorem vD:∀(l:List (Int×Int)) (pc:Int) (w:Lw) (q:Int×Lw),nu pc w l=some q->q.2.code.length<=w.code.length+4*l.length
 |[],pc,w,q,h=>by obtain rfl:(pc,w)=q:=ax h;grind
 |i::l,pc,w,q,h=>by
  obtain⟨-,h2, -,h4⟩:=lH h;have h5:=vD l _ _ q h4
  grind [one_len,cy]
theorem LX(U:List Bool):∀(suf:List II) (i:Nat) (pl:List Int) (c:List II),(nD U suf i pl c).2.length<=c.length+suf.length
 :=by intro y1;induction y1<;>grind [nD,o3]
theorem Cq(U:List Bool):∀(suf:List II) (i:Nat) (pl:List Int) (c:List II),ImC c->ImC suf->ImC (nD U suf i pl c).2
 :=by intro y1;induction y1<;>grind [ImC,nD,o3,ly]
def fP(W:List Int)(from_ n:Nat):List Int:=(List.range n).map λk=>W.getD (from_+k) 0
def oM(W:List Int)(s:St):St:=⟨W.getD 0 0,fP W 4 (W.getD 2 0).toNat,fP W 20 (W.getD 3 0).toNat,W.getD 1 0,s.RM,s.RW,s.ie,s.root,s.vec,s.epc,s.RN,s.addr,s.Sa,s.eie,IntKind.u64.wrap (s.count+W.getD 36 0),s.halted⟩
theorem Bq{W D out:List Int}{f k:Nat}{n:Int}(hn:n=((D.length - k+out.length:Nat):Int))(hlow:∀i,i<D.length - k->W.getD (f+i) 0=D.getD i 0)(hnew:∀i,i<out.length->W.getD (f+(D.length - k)+i) 0=out.getD i 0):
  fP W f n.toNat=D.take (D.length - k)++out:=by
 subst hn;rw[aM];have hl:(D.take (D.length - k)).length=D.length - k:=by rw[aI];omega
 apply List.ext_getElem?
 grind [fP]
theorem EY{n:Nat}{U:Mmu}{d:Dev}(hU:UOk n U)(hdv:d.ok){s:St}(hwf:s.wf)(hr:s.right=true){l:List (Int×Int)}(hu:∀i,i∈l->u32 i.2){p:Pg}(hlow:fg s.pc l=some p)(hright:p.R7=true){M:HM}{f:Nat}
  (jP:jP (gt p (dP p)) f ⟨List.replicate 16 0,Sz s,0⟩=((1,1),M)):
  IW l s (oM M.words s)/\(oM M.words s).wf/\(oM M.words s).right=true/\RE s (oM M.words s) l.length/\1<=l.length/\l.length<=8/\M.words.getD 2 0<=16/\M.words.getD 3 0<=16/\M.words.getD 1 0<=15:=by
 obtain⟨hd16,hr16, -⟩:=St.fits hr;unfold fg at hlow;cases hlen:decide ((l.length:Int)<1)||decide (8<(l.length:Int))with
 |true=>grind
 |false=>
 rw[hlen,ah]at hlow;simp only[Bool.or_eq_false_iff,ac]at hlen;have hl0:l≠[]:=λe=>by grind
 cases hgo:nu s.pc Lw.init l with
 |none=>grind
 |some q=>
 rw[hgo]at hlow;obtain⟨nx,w⟩:=q;obtain rfl:=ax hlow;obtain⟨lk, -,hnx⟩:=uj l s.pc Lw.init _ hu hgo vC;have hnx:=hnx hl0;dsimp only at lk hnx;obtain⟨i,hi⟩:=Zgn (l.getLastD (0,0));rw[hi]at hright jP;obtain⟨p0,hp0⟩:=Zgn (zw nx w i l.length);rw[hp0]at hright jP;have f1:p0.code=w.code:=by rw[<-hp0];rfl
 have f2:p0.RV=w.d.l:=by rw[<-hp0];rfl
 have f3:p0.RX=w.r.l:=by rw[<-hp0];rfl
 have f4:p0.flags=w.flags:=by rw[<-hp0];rfl
 have f5:p0.target=w.target:=by rw[<-hp0];rfl
 have f6:p0.branch=w.branch:=by rw[<-hp0];rfl
 have raw:Raw p0:=⟨by rw[f1];exact lk.wf,by rw[f1];exact lk.ops,by simp_all [lk.d],by simp_all [lk.r],by simp_all [lk.flags],by simp_all [lk.target]⟩;have g1:(cA p0).RI=w.d.RL:=by rw[<-hp0];rfl
 have g2:(cA p0).RJ=w.r.RL:=by rw[<-hp0];rfl
 have g3:(cA p0).Sn=w.d.high:=by rw[<-hp0];rfl
 have g4:(cA p0).Sq=w.r.high:=by rw[<-hp0];rfl
 have g5:(cA p0).next=bif i.1==32||i.1==38 then IntKind.u32.wrap (nx+lP i.2)else nx:=by rw[<-hp0];rfl
 have g6:(cA p0).taken=bif i.1==32||i.1==38 then 0 else bif w.branch !=0 then IntKind.u32.wrap (nx+lP i.2)else 0:=by rw[<-hp0];rfl
 have g7:(cA p0).branch=w.branch:=by rw[<-hp0];rfl
 have g8:(cA p0).count=l.length:=by rw[<-hp0];rfl
 have hlen4:=vD l s.pc Lw.init _ hgo;have hlen5:w.code.length<=32:=by have:Lw.init.code.length=0:=rfl;dsimp only at hlen4;omega
 have hlen6:(cA p0).code.length<=64:=by
  exact Wq277
 have himc:ImC (cA p0).code:=Cq (gy p0) p0.code 0 _ [] (λ_ h=>by cases h) (by rw[f1];exact lk.imm);have hn32:u32 (cA p0).next:=by rw[g5];cases i.1==32||i.1==38 with|true=>exact xu _|false=>exact hnx
 have ht32:u32 (cA p0).taken:=by
  have z:u32 0:=⟨by decide,by decide⟩;rw[g6];cases i.1==32||i.1==38 with
  |true=>exact z
  |false=>grind [xu]
 obtain⟨pok,pbt,pfl,ptg⟩:=vd hright himc hlen6 hn32 ht32;have hplan:Nc (dP (cA p0)) (gl (cA p0)) (cA p0).code.length:=Kq (λi hi=>K9 (cA p0) hi) hlen6;have hgo2:HGo (gt (cA p0) (dP (cA p0))) 0 (gt (cA p0) (dP (cA p0))) (List.replicate 16 0) (Sz s) M:=⟨List.drop_zero,by simp,Ft s,f,jP⟩;have left:=PP pok hplan hr hwf hgo2;have li0:LI s.d s.r Lw.init s.d s.r:=⟨⟨Int.le_refl _,by show(0:Int)<=_;omega,by show s.d=s.d.take (s.d.length - (0:Int).toNat)++[];simp,λ_ h=>by cases h⟩,⟨Int.le_refl _,by show(0:Int)<=_;omega,by show s.r=s.r.take (s.r.length - (0:Int).toNat)++[];simp,λ_ h=>by cases h⟩⟩;have n1:=left.RI;have n2:=left.RJ;have n3:=left.Sn;have n4:=left.Sq;rw[g1]at n1;rw[g2]at n2;rw[g3]at n3;rw[g4]at n4;obtain⟨s',c1,c2,c3,c4,c5,c6,c7,c8⟩:=FH hU hdv hd16 hr16 l s Lw.init (nx,w) hl0 hu hgo hwf hr li0 (Or.inl ⟨rfl,rfl⟩) rfl rfl n1 n2 n3 n4;rw[hi]at c6 c8;dsimp only at c4 c5 c6 c8;obtain⟨V,hV⟩:=Zgn (Si s.d s.r (cA p0).code);have hmv:∀m,(m∈p0.RV\/m∈p0.RX\/m=p0.flags\/m=p0.target)->II.in_ m w.code->0<=(eK p0).1.getD m.toNat 0/\V.getD ((eK p0).1.getD m.toNat 0).toNat 0=ek s.d s.r w.code m:=λm h1 h2=>by
  have h3:=JN (D:=s.d) (R:=s.r) raw h1 bR;rw[f1]at h3;refine⟨h3.1.1,?_⟩;rw[<-hV];exact h3.2
 rw[hV]at left;have hoD:(cA p0).RV=dR (eK p0).1 w.d.l:=by rw[<-f2];rfl
 have hoR:(cA p0).RX=dR (eK p0).1 w.r.l:=by rw[<-f3];rfl
 have hfl:(cA p0).flags=ib (eK p0).1 w.flags:=by rw[<-f4];rfl
 have htg:(cA p0).target=ib (eK p0).1 w.target:=by rw[<-f5];rfl
 have hc3:=c3;obtain⟨-, -,fl15⟩:=St.fits c3;have hfl0:=c2.flags;have eF:(cA p0).S6 V s.flags=s'.flags:=by
  unfold Pg.S6;rw[hfl];rcases c5 with⟨q1,q2⟩|⟨q1,q2⟩
  .rw[q1];exact q2.symm
  have hne:w.flags≠ -1:=by have:=q1.1;omega
  have h3:=hmv w.flags Wq1 q1;unfold ib;rw[show(w.flags != -1)=true by grind,ai,ay h3.1,ai,h3.2,<-q2];have:=hfl0.1;omega
 have ePc:(cA p0).SR V s'.flags=s'.pc:=by
  rw[c6];unfold Pg.SR ss;rw[htg,g5,g6,g7];rw[htg]at ptg pbt;rw[g7]at pbt;by_cases ht:w.target= -1
  .grind [ib,eK,dm]
  have hin:II.in_ w.target w.code:=by rcases lk.target with e|e;exact absurd e ht;exact e
  grind [ib,eK,dm]
 have Tc:(cA p0).RV.length=w.d.l.length:=by rw[hoD];simp[dR]
 have lenR:(cA p0).RX.length=w.r.l.length:=by rw[hoR];simp[dR]
 have outsEq:∀(L:List Int),(∀m,m∈L->(m∈p0.RV\/m∈p0.RX\/m=p0.flags\/m=p0.target)/\II.in_ m w.code)->∀j,j<L.length->V.getD ((dR (eK p0).1 L).getD j 0).toNat 0=(L.map (ek s.d s.r w.code)).getD j 0:=λL hL j hj=>by
  grind [dR,eK,ek]
 have hLD:∀m,m∈w.d.l->(m∈p0.RV\/m∈p0.RX\/m=p0.flags\/m=p0.target)/\II.in_ m w.code:=λm hm=>⟨Or.inl bR,lk.d m hm⟩
 have hLR:∀m,m∈w.r.l->(m∈p0.RV\/m∈p0.RX\/m=p0.flags\/m=p0.target)/\II.in_ m w.code:=λm hm=>⟨Or.inr (Or.inl bR),lk.r m hm⟩
 have eD:fP M.words 4 (M.words.getD 2 0).toNat=s'.d:=by
  rw[c4.d.eq];have a1:=left.Tc;have a2:=left.lowD;have a3:=left.newD;rw[g1]at a1 a2 a3;rw[Tc]at a1 a3;refine Bq bR a2 (λj hj=>?_);have hj:j<w.d.l.length:=by simpa using hj
  rw[a3 j hj,hoD];exact outsEq w.d.l hLD j hj
 have eR:fP M.words 20 (M.words.getD 3 0).toNat=s'.r:=by
  rw[c4.r.eq];have a1:=left.lenR;have a2:=left.lowR;have a3:=left.newR;rw[g2]at a1 a2 a3;rw[lenR]at a1 a3;refine Bq bR a2 (λj hj=>?_);have hj:j<w.r.l.length:=by simpa using hj
  rw[a3 j hj,hoR];exact outsEq w.r.l hLR j hj
 have eS:oM M.words s=s':=by
  unfold oM;have hk:s'=_:=c7;rw[left.pc,left.flags,left.count,eF,ePc,eD,eR,g8];rw[hk]
 have hfit1:=left.fitD;have hfit2:=left.fitR;have hw2:=left.Tc;have hw3:=left.lenR;rw[eS];exact⟨c1,c2,c3,c7,by omega,by omega,by omega,by omega,by rw[left.flags,eF];omega⟩
abbrev HI.cells(i:HI):List Value:=[.i i.op,.i i.rd,.i i.ra,.i i.rb,.w i.imm]
abbrev hiv(i:HI):Value:= .agg i.cells.toArray
def yd(i:HI):HI×Bool:=
 bif i.op==0 then(⟨i.op,0,0,0,0⟩,true)else bif i.op==1 then(⟨i.op,i.rd,0,0,i.imm⟩,true)else bif i.op==2 then(⟨i.op,i.rd,i.ra,0,0⟩,true)else
 bif decide (3<=i.op)&&decide (i.op<=13)then(⟨i.op,i.rd,i.ra,i.rb,0⟩,true)else bif i.op==14 then(⟨i.op,i.rd,i.ra,0,i.imm⟩,true)else bif i.op==15 then(⟨i.op,0,i.ra,i.rb,i.imm⟩,true)else
 bif i.op==16||i.op==17 then(⟨i.op,0,i.ra,0,i.imm⟩,true)else bif i.op==18||i.op==19 then(⟨i.op,0,0,0,i.imm⟩,true)else(⟨i.op,0,0,0,0⟩,false)
structure HI.Sj(i:HI):Prop where
 asked:yd i=(i,true)
 rd:0<=i.rd/\i.rd<=15
 ra:0<=i.ra/\i.ra<=15
 rb:0<=i.rb/\i.rb<=15
 imm:0<=i.imm/\i.imm<=4294967295
theorem HI.Sj.op{i:HI}(h:i.Sj):0<=i.op/\i.op<=19:=by
 grind [h.asked,yd]
def tD(i:HI):List Int:=[i.op,i.rd,i.ra,i.rb,i.imm%256,i.imm/256%256,i.imm/65536%256,i.imm/16777216%256]
def cE(l:List HI):List Int:=l.flatMap tD
theorem jd:∀l:List HI,(cE l).length=8*l.length
 |[]=>rfl
 |i::l=>by
  have:=jd l;show(tD i++cE l).length=_;rw[aq,this];show 8+_=8*(l.length+1);omega
theorem Ek(l:List HI)(i:HI):cE (l++[i])=cE l++tD i:=by simp[cE]
theorem or_up{a b k:Nat}(ha:a<2^k)(hab:b*2^k+a<4294967296)(hk:k<=24):bits .or .u32 (a:Int) (IntKind.u32.wrap ((b:Int)*2^(min (k:Int).toNat IntKind.u32.bits)))=((b*2^k+a:Nat):Int):=by
 have e1:min (k:Int).toNat IntKind.u32.bits=k:=by rw[aM];show min k 32=k;omega
 rw[e1];have e2:IntKind.u32.wrap ((b:Int)*2^k)=((b*2^k:Nat):Int):=by
  rw[aC];have:((b:Int)*2^k)=((b*2^k:Nat):Int):=by simp
  rw[this];omega
 rw[e2,or32 Wq1 Wq1,Nat.or_comm,Nat.mul_comm b,<-Nat.two_pow_add_eq_or_of_lt ha]
theorem Pn{m:Nat}(h:m<4294967296):bits .or .u32 (bits .or .u32 (bits .or .u32 ((m%256:Nat):Int) (IntKind.u32.wrap (((m/256%256:Nat):Int)*2^(min ((8:Nat):Int).toNat IntKind.u32.bits)))) (IntKind.u32.wrap (((m/65536%256:Nat):Int)*2^(min ((16:Nat):Int).toNat IntKind.u32.bits)))) (IntKind.u32.wrap (((m/16777216%256:Nat):Int)*2^(min ((24:Nat):Int).toNat IntKind.u32.bits)))=(m:Int):=by
 rw[or_up (k:=8) Wq1 Wq1 Wq7,or_up (k:=16) Wq1 Wq1 Wq7,or_up (k:=24) Wq1 Wq1 Wq7];omega
theorem z15:(0:Int)<=0/\(0:Int)<=15:=by decide
theorem z32:(0:Int)<=0/\(0:Int)<=4294967295:=by decide
theorem kD{rd v:Int}(h:0<=rd/\rd<=15)(hv:0<=v/\v<=4294967295):HI.Sj ⟨1,rd,0,0,v⟩:=⟨rfl,h,z15,z15,hv⟩
theorem FZ{rd ra:Int}(h:0<=rd/\rd<=15)(h2:0<=ra/\ra<=15):HI.Sj ⟨2,rd,ra,0,0⟩:=⟨rfl,h,h2,z15,z32⟩
theorem fL{op rd ra rb:Int}(ho:3<=op/\op<=13)(h:0<=rd/\rd<=15)(h2:0<=ra/\ra<=15)(h3:0<=rb/\rb<=15):HI.Sj ⟨op,rd,ra,rb,0⟩:=by
 refine⟨?_,h,h2,h3,z32⟩
 grind [yd]
theorem zZ{rd ra v:Int}(h:0<=rd/\rd<=15)(h2:0<=ra/\ra<=15)(hv:0<=v/\v<=4294967295):HI.Sj ⟨14,rd,ra,0,v⟩:=⟨rfl,h,h2,z15,hv⟩
theorem vV{ra rb v:Int}(h:0<=ra/\ra<=15)(h2:0<=rb/\rb<=15)(hv:0<=v/\v<=4294967295):HI.Sj ⟨15,0,ra,rb,v⟩:=⟨rfl,z15,h,h2,hv⟩
theorem Em{op ra v:Int}(ho:op=16\/op=17)(h:0<=ra/\ra<=15)(hv:0<=v/\v<=4294967295):HI.Sj ⟨op,0,ra,0,v⟩:=by
 rcases ho with rfl|rfl<;>exact⟨rfl,z15,h,z15,hv⟩
theorem Cn{v:Int}(hv:0<=v/\v<=4294967295):HI.Sj ⟨19,0,0,0,v⟩:=⟨rfl,z15,z15,z15,hv⟩
def gb(l:List HI):Prop:=∀i,i∈l->i.Sj
theorem dH:gb []:=λ_ h=>by cases h
theorem bY{i:HI}{l:List HI}(h:i.Sj)(k:gb l):gb (i::l):=λj hj=>by
 rcases aG.1 hj with rfl|hj
 .exact h
 exact k j hj
theorem dS{a b:List HI}(h:gb a)(k:gb b):gb (a++b):=λj hj=>by
 rcases aF.1 hj with hj|hj
 .exact h j hj
 exact k j hj
theorem Pr(op:Int):3<=sU op/\sU op<=13:=by
 grind [sU]
section
variable {pl:Pl} {N:Nat}
theorem Jo(x:Int):0<=IntKind.u32.wrap x/\IntKind.u32.wrap x<=4294967295:=by rw[aC];omega
theorem LP{r:Int}(h:0<=r/\r<=15):gb (Rh r):=bY (kD Wq7 Wq7) (bY (fL Wq7 h h Wq7) dH)
theorem Cm{op rd a b:Int}(h:0<=rd/\rd<=15)(ha:0<=a/\a<=15)(hb:0<=b/\b<=15):gb (yz op rd a b):=by
 grind [yz,bY,fL,Pr,zI,dH,LP]
theorem qR{r up:Int}(h:0<=r/\r<=15)(hu:0<=up/\up<=4294967295):gb (w8 r up):=bY (kD Wq7 hu) (bY (fL Wq7 h h Wq7) (bY (fL Wq7 Wq7 Wq7 h) dH))
theorem sV{rd r:Int}(h:0<=rd/\rd<=15)(h2:0<=r/\r<=15):gb (ik rd r):=bY (kD Wq7 Wq7) (bY (fL Wq7 h h2 Wq7) dH)
theorem qQ:gb gY:=bY (fL Wq7 Wq7 Wq7 Wq7) (dS (sV Wq7 Wq7) (qR Wq7 Wq7))
theorem Ib{op a b:Int}(ha:0<=a/\a<=15)(hb:0<=b/\b<=15):gb (mv op a b):=by
 unfold mv;refine dS (dS (Cm Wq7 ha hb) (bY (fL Wq7 Wq7 Wq7 Wq7) (dS (sV Wq7 Wq7) (qR Wq7 Wq7)))) ?_;cases op==16 with
 |true=>exact bY (fL Wq7 Wq7 Wq7 ha) (dS (qR Wq7 Wq7) (bY (fL Wq7 Wq7 ha Wq7) (bY (fL Wq7 Wq7 hb Wq7) qQ)))
 |false=>
  cases op==17||op==25 with
  |true=>exact bY (fL Wq7 Wq7 ha hb) (dS (qR Wq7 Wq7) (bY (fL Wq7 Wq7 ha hb) (bY (fL Wq7 Wq7 ha Wq7) qQ)))
  |false=>exact dH
theorem vY{n into:Int}(h:pl.has n)(hi:0<=into/\into<=15):0<=eC pl n into/\eC pl n into<=15:=by
 unfold eC;rcases h with⟨h1,h2⟩|⟨h1,h2,h3⟩
 .grind [Pl.inR]
 grind
theorem qP{n into:Int}(hi:0<=into/\into<=15):gb (jY pl n into):=by
 grind [jY,dH,bY,zZ,Jo]
theorem Ia{n r:Int}(hr:0<=r/\r<=15):gb (jb pl n r):=by
 grind [jb,dH,bY,vV,Jo]
theorem LO{nd nr:Int}{n:Nat}{x:II}(hp:∀k:Nat,k<N->pl.has k)(hn:n<N)(hx:x.ok nd nr n):gb (rO nd nr pl n x):=by
 have hN:=hp n hn;have h9:=vY (into:=9) hN Wq7;have hab:x.op=3\/x.op=4->(0<=eC pl x.a 7/\eC pl x.a 7<=15)/\(0<=eC pl x.b 8/\eC pl x.b 8<=15):=λho=>by
  obtain⟨⟨a1,a2⟩,b1,b2⟩:=hx.ab ho;have ea:((x.a.toNat:Nat):Int)=x.a:=by omega
  have eb:((x.b.toNat:Nat):Int)=x.b:=by omega
  have ha:=hp x.a.toNat Wq1;have hb:=hp x.b.toNat Wq1
  simp_all [vY]
 grind [rO,dS,Ia,hx.op,hx.imm,bY,kD,dH,zZ,Jo,qP,Cm,Ib,FZ]
theorem yf{nd nr:Int}(hp:∀k:Nat,k<N->pl.has k):∀(c:List II) (n:Nat),n+c.length<=N->(∀(i:Nat) (x:II),c[i]? =some x->x.ok nd nr (n+i))->gb (jV nd nr pl c n)
 |[],_,_,_=>dH
 |x::c,n,hn,h=>by
  simp only[aQ]at hn;refine dS (LO hp Wq1 (by have:=h 0 x rfl;omega)) (yf hp c (n+1) Wq1 (λi y hy=>?_));have:=h (i+1) y bR
  grind
theorem El{n:Int}(hp:∀k:Nat,k<N->pl.has k)(h:0<=n/\n<N):pl.has n:=by
 have:=hp n.toNat Wq1
 grind
theorem Cl{base f:Int}(hp:∀k:Nat,k<N->pl.has k)(hb:0<=base/\base<=15):∀(c:List Int) (k:Nat),(∀n,n∈c->0<=n/\n<N)->gb (zF pl base f c k)
 |[],_,_=>dH
 |n::c,k,h=>dS (qP Wq7) (bY (vV hb (vY (El hp (h n cH)) Wq7) (Jo _)) (Cl hp hb c (k+1) (λm hm=>h m (List.mem_cons_of_mem _ hm))))
theorem vU{base f word:Int}{out:List Int}(hp:∀k:Nat,k<N->pl.has k)(hb:0<=base/\base<=15)(hw:0<=word/\word<=15)(h:∀n,n∈out->0<=n/\n<N):gb (iX pl base f word out):=
 dS (Cl hp hb out 0 h) (bY (kD Wq7 (Jo _)) (bY (fL Wq7 Wq7 Wq7 hb) (bY (vV Wq7 Wq7 Wq1) dH)))
theorem sd{e base word RL Se:Int}(he:0<=e/\e<=4294967295)(hb:0<=base/\base<=15)(hw:0<=word/\word<=15):gb (pf e base word RL Se):=
 bY (zZ hb Wq7 Wq1) (bY (kD Wq7 (Jo _)) (bY (fL Wq7 Wq7 hb Wq7) (bY (Em (Or.inr rfl) Wq7 he) (bY (kD Wq7 (Jo _)) (bY (fL Wq7 Wq7 Wq7 hb) (bY (Em (Or.inr rfl) Wq7 he) (bY (fL Wq7 hb hb Wq7) dH)))))))
theorem Eb(op:Int):0<=gX op/\gX op<=4294967295:=by
 grind [gX]
theorem Ic{p:Pg}{T:List Int}(ok:PgOk p T)(hN:N=p.code.length)(hp:∀k:Nat,k<N->pl.has k):gb (gt p pl):=by
 subst hN;have hfl:=ok.flags;have htg:=ok.target;have h15:HI.Sj ⟨1,15,0,0,0⟩:=kD Wq7 Wq7;refine dS ?_ (bY (Cn Wq7) dH);unfold fm;obtain⟨e,he⟩:=Zgn (IntKind.u32.wrap ((fm p pl 0).length:Nat));have hee:=Jo ((fm p pl 0).length:Nat);unfold fm at he hee;rw[he]at hee|-;cases p.SK with
 |false=>exact bY h15 dH
 |true=>
  cases p.SP with
  |false=>grind [bY,sd]
  |true=>
   have hflags:gb (gR p pl):=by
    unfold gR;by_cases h0:0<=p.flags
    .grind [bY,kD,dS,qP,fL,vY,El,vV,dH]
    grind [dH]
   have htarget:gb (jC p pl):=by
    unfold jC;by_cases h0:0<=p.target
    .grind [dS,qP,bY,FZ,vY,El,dH]
    grind [dH]
   have hbranch:∀q,gb (iu p q):=λq=>by
    grind [iu,dH,bY,zZ,kD,Eb,fL,Em,jF,Jo,ok.taken]
   show gb (tC p e++(iV p pl++ul p pl (17+(iV p pl).length)));refine dS (bY h15 (dS (sd hee Wq7 Wq7) (sd hee Wq7 Wq7))) (dS (dS (yf hp p.code 0 Wq1 (λi x hx=>by rw[Nat.zero_add];exact ok.code i x hx)) (dS (vU hp Wq7 Wq7 (λn hn=>⟨(ok.RV n hn).1,(ok.RV n hn).2.1⟩)) (vU hp Wq7 Wq7 (λn hn=>⟨(ok.RX n hn).1,(ok.RX n hn).2.1⟩)))) ?_)
   grind [ul,dS,bY,kD,ok.next,vV,Jo,Cn,dH]
end
section
attribute [local irreducible] OpY bH
theorem hi_eq(i:HI):EqV prog 10000 309 (hiv i) (hiv i):=
 .struct rfl Zk (EqF.cons Wq7 Zrf Zrf (.int rfl) (EqF.cons Wq7 Zrf Zrf (.int rfl) (EqF.cons Wq7 Zrf Zrf (.int rfl) (EqF.cons Wq7 Zrf Zrf (.int rfl) (EqF.cons Wq7 Zrf Zrf (.int rfl) EqF.nil)))))
theorem Px:prog.eqGuardType prog.depth 309=false:=by kernel_rfl
theorem Qh(i:HI)(w:World):Ctr prog 272 [hiv i] w [] (λv cs=>v= .tuple #[hiv (yd i).1,.bool (yd i).2]/\cs=[]):=by
 refine Zfs func272 ntmps272 ?_;refine Z_2 ?_;refine ZO λb1=>?_;refine ZN λb2=>?_
 refine Z_8 ?_;refine ZN λb4=>?_
 refine ZM ?_;refine fD ?_;refine ZW ?_ ?_<;>intro hc3
 .refine Z_6 ?_;refine iD ?_;refine CW ?_;refine⟨?_,rfl⟩;exact pW
  try exact rfl
 refine Zw8 ?_ ?_<;>intro hc4
 .refine bL ⟨λj=>List.elem j [5,7],[]⟩ Zk (ZFe 0 1 ?_);refine ZG 1 ?_;refine ZFe 2 4 ?_;refine ZFe 4 1 ?_;refine ke 3 5 Zk ?_ ?_
  .refine lR ?_;refine cn 5 Zk (ZQ ?_);refine ZFe 6 4 ?_;refine sy ?_;refine Wq8 ?_;refine⟨?_,rfl⟩;exact pW
   try exact rfl
  refine ZQ ?_;refine ZG 3 ?_;refine ZFe 6 4 ?_;refine sy ?_;refine Wq8 ?_;refine⟨?_,rfl⟩;exact pW
  try exact rfl
 refine Zw8 ?_ ?_<;>intro hc6
 .refine bL ⟨λj=>List.elem j [5,7],[]⟩ Zk (ZFe 0 1 ?_);refine ZG 1 ?_;refine ZFe 2 2 ?_;refine ZFe 4 1 ?_;refine ke 3 5 Zk ?_ ?_
  .refine lR ?_;refine cn 5 Zk (ZQ ?_);refine ZFe 6 2 ?_;refine sy ?_;refine Wq8 ?_;refine⟨?_,rfl⟩;exact pW
   try exact rfl
  refine ZQ ?_;refine ZG 3 ?_;refine ZFe 6 2 ?_;refine sy ?_;refine Wq8 ?_;refine⟨?_,rfl⟩;exact pW
  try exact rfl
 refine uw ?_ ?_<;>intro hc8
 .refine bL ⟨λj=>List.elem j [7,9,11],[]⟩ Zk (ZFe 0 1 ?_);refine ZG 1 ?_;refine ZFe 2 2 ?_;refine ZFe 4 3 ?_;refine ZFe 6 1 ?_;refine wa_3 3 5 7 Zk ?_ ?_ ?_
  .refine lR ?_;refine ke 5 7 Zk ?_ ?_
   .refine lR ?_;refine sy ?_;refine ZFe 8 2 ?_;refine cn 9 Zk (ZQ ?_);refine EI ?_;refine⟨?_,rfl⟩;exact pW
    try exact rfl
   refine ZQ ?_;refine ZFe 8 2 ?_;refine ke 5 9 Zk ?_ ?_
   .refine lR ?_;refine cn 9 Zk (ZQ ?_);refine EI ?_;refine⟨?_,rfl⟩;exact pW
    try exact rfl
   refine ZQ ?_;refine ZG 5 ?_;refine EI ?_;refine⟨?_,rfl⟩;exact pW
   try exact rfl
  .refine lR ?_;refine ke 3 7 Zk ?_ ?_
   .refine lR ?_;refine sy ?_;refine ZFe 8 2 ?_;refine cn 9 Zk (ZQ ?_);refine EI ?_;refine⟨?_,rfl⟩;exact pW
    try exact rfl
   refine ZQ ?_;refine ZG 3 ?_;refine ZFe 8 2 ?_;refine cn 9 Zk (ZQ ?_);refine EI ?_;refine⟨?_,rfl⟩;exact pW
   try exact rfl
  refine ZQ ?_;refine ZG 3 ?_;refine ZFe 8 2 ?_;refine ke 5 9 Zk ?_ ?_
  .refine lR ?_;refine cn 9 Zk (ZQ ?_);refine EI ?_;refine⟨?_,rfl⟩;exact pW
   try exact rfl
  refine ZQ ?_;refine ZG 5 ?_;refine EI ?_;refine⟨?_,rfl⟩;exact pW
  try exact rfl
 refine Zw8 ?_ ?_<;>intro hc10
 .refine bL ⟨λj=>List.elem j [7,9,11],[]⟩ Zk (ZFe 0 1 ?_);refine ZG 1 ?_;refine ZFe 2 2 ?_;refine ZFe 4 4 ?_;refine ZFe 6 1 ?_;refine wa_3 3 5 7 Zk ?_ ?_ ?_
  .refine lR ?_;refine ke 5 7 Zk ?_ ?_
   .refine lR ?_;refine sy ?_;refine ZFe 8 2 ?_;refine xd ?_;refine⟨?_,rfl⟩;exact pW
    try exact rfl
   refine ZQ ?_;refine ZFe 8 2 ?_;refine ke 5 9 Zk ?_ ?_
   .refine lR ?_;refine xd ?_;refine⟨?_,rfl⟩;exact pW
    try exact rfl
   refine ZQ ?_;refine ZG 5 ?_;refine Wq67 ?_;refine⟨?_,rfl⟩;exact pW
   try exact rfl
  .refine lR ?_;refine ke 3 7 Zk ?_ ?_
   .refine lR ?_;refine sy ?_;refine ZFe 8 2 ?_;refine xd ?_;refine⟨?_,rfl⟩;exact pW
    try exact rfl
   refine ZQ ?_;refine ZG 3 ?_;refine ZFe 8 2 ?_;refine xd ?_;refine⟨?_,rfl⟩;exact pW
   try exact rfl
  refine ZQ ?_;refine ZG 3 ?_;refine ZFe 8 2 ?_;refine ke 5 9 Zk ?_ ?_
  .refine lR ?_;refine xd ?_;refine⟨?_,rfl⟩;exact pW
   try exact rfl
  refine ZQ ?_;refine ZG 5 ?_;refine Wq67 ?_;refine⟨?_,rfl⟩;exact pW
  try exact rfl
 refine Zw8 ?_ ?_<;>intro hc12
 .refine bL ⟨λj=>List.elem j [7,9,11],[]⟩ Zk (ZFe 0 2 ?_);refine ZG 1 ?_;refine ZFe 2 3 ?_;refine ZFe 4 4 ?_;refine ZFe 6 2 ?_;refine wa_3 3 5 7 Zk ?_ ?_ ?_
  .refine lR ?_;refine ke 5 7 Zk ?_ ?_
   .refine lR ?_;refine sy ?_;refine ZFe 8 3 ?_;refine xd ?_;refine⟨?_,rfl⟩;exact pW
    try exact rfl
   refine ZQ ?_;refine ZFe 8 3 ?_;refine ke 5 9 Zk ?_ ?_
   .refine lR ?_;refine xd ?_;refine⟨?_,rfl⟩;exact pW
    try exact rfl
   refine ZQ ?_;refine ZG 5 ?_;refine Wq67 ?_;refine⟨?_,rfl⟩;exact pW
   try exact rfl
  .refine lR ?_;refine ke 3 7 Zk ?_ ?_
   .refine lR ?_;refine sy ?_;refine ZFe 8 3 ?_;refine xd ?_;refine⟨?_,rfl⟩;exact pW
    try exact rfl
   refine ZQ ?_;refine ZG 3 ?_;refine ZFe 8 3 ?_;refine xd ?_;refine⟨?_,rfl⟩;exact pW
   try exact rfl
  refine ZQ ?_;refine ZG 3 ?_;refine ZFe 8 3 ?_;refine ke 5 9 Zk ?_ ?_
  .refine lR ?_;refine xd ?_;refine⟨?_,rfl⟩;exact pW
   try exact rfl
  refine ZQ ?_;refine ZG 5 ?_;refine Wq67 ?_;refine⟨?_,rfl⟩;exact pW
  try exact rfl
 refine uw ?_ ?_<;>intro hc14
 .refine bL ⟨λj=>List.elem j [5,7],[]⟩ Zk (ZFe 0 2 ?_);refine ZG 1 ?_;refine ZFe 2 4 ?_;refine ZFe 4 2 ?_;refine ke 3 5 Zk ?_ ?_
  .refine lR ?_;refine cn 5 Zk (ZQ ?_);refine ZFe 6 4 ?_;refine sy ?_;refine Wq8 ?_;refine⟨?_,rfl⟩;exact pW
   try exact rfl
  refine ZQ ?_;refine ZG 3 ?_;refine ZFe 6 4 ?_;refine sy ?_;refine Wq8 ?_;refine⟨?_,rfl⟩;exact pW
  try exact rfl
 refine uw ?_ ?_<;>intro hc16
 .refine Z_4 ?_;refine ZL ?_;refine Z_6 ?_;refine iD ?_;refine CW ?_;refine⟨?_,rfl⟩;exact pW
  try exact rfl
 refine Z_3 ?_;refine jh ?_;refine CW ?_;refine⟨?_,rfl⟩;exact pW
 try exact rfl
theorem Eh(n:Int)(w:World):Ctr prog 273 [.i n] w [] (λv cs=>v= .bool (decide (0<=n)&&decide (n<16))/\cs=[]):=by
 refine Zfs func273 ntmps273 ?_;refine AG ?_;exact pM
theorem Ce(i:HI)(h:i.Sj)(w:World):Ctr prog 244 [hiv i] w [] (λv cs=>v= .bool true/\cs=[]):=by
 have HA:=Qh i;rw[h.asked]at HA;have hreg:∀n:Int,0<=n/\n<=15->(decide (0<=n)&&decide (n<16))=true:=λn hn=>by grind
 have e1:=hreg _ h.rd;have e2:=hreg _ h.ra;have e3:=hreg _ h.rb;have R1:=Eh i.rd;have R2:=Eh i.ra;have R3:=Eh i.rb;rw[e1]at R1;rw[e2]at R2;rw[e3]at R3;refine Zfs func244 ntmps244 ?_;refine Z_2 ?_;refine ZO λb1=>?_;refine Z_6 ?_;refine ZSe (λw hi=>HA w) ?_;refine Z_3 ?_;refine ZN λb3=>?_
 refine ZM ?_;refine Z_7 ?_;refine fJ (bM rfl rfl) Zh Zrf Zrf (Zv rfl) rfl (fJ (bM rfl rfl) Zh Zrf Zrf (Zv rfl) rfl (Zyy rfl rfl (y_eqlT Px (hi_eq i) (bU rfl) (bU rfl)) ?_));refine Z_4 ?_;refine gU (bM rfl rfl) rfl (dW rfl (λ_ _=>rfl) (λw hi=>R1 w)) rfl ?_;rintro _ _ ⟨_,⟨rfl,rfl⟩,rfl⟩;refine Z_4 ?_;refine gU (bM rfl rfl) rfl (dW rfl (λ_ _=>rfl) (λw hi=>R2 w)) rfl ?_;rintro _ _ ⟨_,⟨rfl,rfl⟩,rfl⟩;refine Z_4 ?_;refine gU (bM rfl rfl) rfl (dW rfl (λ_ _=>rfl) (λw hi=>R3 w)) rfl ?_;rintro _ _ ⟨_,⟨rfl,rfl⟩,rfl⟩;refine Z_5 ?_;exact pM
abbrev hiC(A:Option Addr)(c:Nat)(l:List HI):bC:=slv 309 5 A l.length c (l.flatMap HI.cells)
theorem hi_snoc{A:Option Addr}{c:Nat}{l:List HI}{i:HI}:slv 309 5 A (l.length+1) c (l.flatMap HI.cells++i.cells)=hiC A c (l++[i]):=by
 grind
theorem FX(A:Option Addr)(c:Nat)(l:List HI)(hg:gb l)(hl:l.length<=100000)(w:World)(h:RdV w 5 A l.length c (l.flatMap HI.cells)):
  Ctr prog 190 [.slice A l.length c] w [] (λv cs=>∃A' c',v= .tuple #[.slice A' (cE l).length c',.i 0]/\cs=[sl .u8 5 A' (cE l).length c' (cE l)]):=by
 refine Zfs func190 ntmps190 ?_;refine iT ?_;refine cT 5 1 (Z_6 ?_);refine bN (λq:Nat×Option Addr×Nat=>[(4,.slice q.2.1 (cE (l.take q.1)).length q.2.2),(7,.slice A l.length c),(8,.i l.length),(9,.i (q.1:Int))]) (λq=>[sl .u8 5 q.2.1 (cE (l.take q.1)).length q.2.2 (cE (l.take q.1))]) (λq=>q.1<=l.length) (λq=>l.length - q.1) (⟨0,none,0⟩) ?_ ?_ ?_ ?_
 .omega
 .exact Zwk
 .exact Zu
 rintro⟨k,A1,c1⟩ hk;dsimp only at hk|-;refine Zw6 ?_ ?_<;>intro hc3
 .simp only[ae]at hc3;obtain⟨ad,rfl⟩:=h.some_ Wq1;obtain⟨i,hx⟩:∃i,l[k]? =some i:=⟨_,aa (show k<l.length by omega)⟩;have hgi:=hg i (ak hx);have htk:l.take (k+1)=l.take k++[i]:=(by rw[List.take_add_one,hx];rfl);have hlk:(cE (l.take k)).length<=800000:=(by rw[jd,aI];omega);obtain⟨o1,o2⟩:=hgi.op;obtain⟨a1,a2⟩:=hgi.rd;obtain⟨p1,p2⟩:=hgi.ra;obtain⟨q1,q2⟩:=hgi.rb;obtain⟨m1,m2⟩:=hgi.imm;have HR:=Ce i hgi;have hbe:tD i=[i.op,i.rd,i.ra,i.rb,i.imm%256,i.imm/256%256,i.imm/65536%256,i.imm/16777216%256]:=rfl;have hbs:cE (l.take (k+1))=cE (l.take k)++tD i:=(by rw[htk,Ek]);have hcl:i.cells=[.i i.op,.i i.rd,.i i.ra,.i i.rb,.w i.imm]:=rfl;obtain⟨op,rd,ra,rb,im⟩:=i;dsimp only at o1 o2 a1 a2 p1 p2 q1 q2 m1 m2 hbe hcl;refine Z_6 ?_;refine CS ?_;refine dK (bP (vs:=[.i op,.i rd,.i ra,.i rb,.w im]) Zrf Zrf Zv0) (dY h (λj v hj=>da (f:=HI.cells) Zrf (i:=j) hx hj)) rfl ?_;refine ZN λb6=>?_
  refine jh ?_;refine ZSe (λw hi=>HR w) ?_;refine ji ?_;refine Z_6 ?_;refine Wq123 ?_;refine Wq123 ?_;refine Zy (cQ rfl rfl (Zv rfl) (show IntKind.u8.wrap im=im%256 from by rw[IntKind.wrap_u8])) ?_;refine Z_2 ?_;refine Zy (lW (Zv rfl) (Zv rfl) Wq1 (show _=im/256 from by show im.fdiv 256=_;grind)) ?_;refine Zy (cQ rfl rfl (Zv rfl) (show IntKind.u8.wrap (im/256)=im/256%256 from by rw[IntKind.wrap_u8])) ?_;refine Z_2 ?_;refine Zy (lW (Zv rfl) (Zv rfl) Wq1 (show _=im/65536 from by show im.fdiv 65536=_;grind)) ?_;refine Zy (cQ rfl rfl (Zv rfl) (show IntKind.u8.wrap (im/65536)=im/65536%256 from by rw[IntKind.wrap_u8])) ?_;refine Z_2 ?_;refine Zy (lW (Zv rfl) (Zv rfl) Wq1 (show _=im/16777216 from by show im.fdiv 16777216=_;grind)) ?_;refine Zy (cQ rfl rfl (Zv rfl) (show IntKind.u8.wrap (im/16777216)=im/16777216%256 from by rw[IntKind.wrap_u8])) ?_;refine kY ?_;rintro _ _ ⟨b44,rfl,rfl⟩;refine fW (cj (e:=5) (sz:=1) (bytes:=1) rfl rfl Za rfl rfl (λw hi=>hi.rd (show Has _ (slv 5 1 (sA b44) 8 8 (ints .u8 (tD ⟨op,rd,ra,rb,im⟩)))from Zh)) di gq Wq1) rfl ?_;rintro _ _ ⟨A2,c2,rfl,rfl⟩;rw[bX,<-hbs,show(cE (l.take k)).length+8=(cE (l.take (k+1))).length from by simp_all];refine gv ?_;refine bJ ((⟨k+1,A2,c2⟩:Nat×Option Addr×Nat)) ?_ ?_ ?_
  .omega
  .exact Zwk
  exact Zj
 simp only[ac]at hc3;obtain rfl:k=l.length:=by omega
 rw[bl];refine kM ?_;exact xH (cs':=[slv _ _ _ _ _ _]) (.inl rfl) Zu rfl rfl rfl pN
end
end Go.Ink
