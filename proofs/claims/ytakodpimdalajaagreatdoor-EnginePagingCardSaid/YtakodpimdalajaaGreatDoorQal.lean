/- Lemmas. -/
import Derived.Test.YtakodpimdalajaaGreatDoorQaa
import Derived.Test.YtakodpimdalajaaGreatDoorQab
import Derived.Test.YtakodpimdalajaaGreatDoorQai
import Derived.Test.YtakodpimdalajaaGreatDoorQak
set_option linter.unusedSimpArgs false
set_option linter.unusedVariables false
set_option maxRecDepth 100000
set_option maxHeartbeats 4000000
namespace Go.Ink
open Go.RowKit
def II.zero:II:=⟨0,0,0,0,0⟩
def iz(U:List Bool)(l:List Int):List Bool:=l.foldl (fun U n=>bif n != -1 then U.set n.toNat true else U) U
def ka(code:List II):Nat→List Bool→List Bool
 |0,U=>U
 |k+1,U=>ka code k (bif U.getD k false&&kj (code.getD k II.zero)then iz U [(code.getD k II.zero).a,(code.getD k II.zero).b]else U)
def Ay(p:Pg):List Bool:=iz (iz (iz (List.replicate p.code.length false) p.Ij) p.Ik) [p.flags,p.target]
def fR(p:Pg):List Bool:=ka p.code p.code.length (Ay p)
def mE(x:II)(pl:List Int)(n:Nat):II:=bif kj x then⟨x.op,n,pl.getD x.a.toNat 0,pl.getD x.b.toNat 0,x.imm⟩else⟨x.op,n,x.a,x.b,x.imm⟩
def kD(U:List Bool):List II→Nat→List Int→List II→List Int×List II
 |[],_,pl,c=>(pl,c)
 |x::suf,i,pl,c=>bif U.getD i false then kD U suf (i+1) (pl.set i (c.length:Int)) (c++[mE x (pl.set i (c.length:Int)) c.length])else kD U suf (i+1) pl c
def cP(pl:List Int)(l:List Int):List Int:=l.map fun n=>pl.getD n.toNat 0
def ee(p:Pg):List Int×List II:=kD (fR p) p.code 0 (List.replicate p.code.length 0) []
def ek(pl:List Int)(n:Int):Int:=bif n != -1 then pl.getD n.toNat 0 else n
def cI(p:Pg):Pg:=⟨(ee p).2,p.Ia,p.Ib,p.IB,p.ID,cP (ee p).1 p.Ij,cP (ee p).1 p.Ik,ek (ee p).1 p.flags,p.next,ek (ee p).1 p.target,p.branch,p.taken,p.count,(ee p).2.length⟩
def WfC(code:List II):Prop:=∀(i:Nat) (x:II),code[i]? =some x→kj x=true→(0≤x.a∧x.a<i)∧(0≤x.b∧x.b<i)
abbrev us(U:List Bool)(n:Nat):Prop:=U.getD n false=true
theorem y5{U:List Bool}{j:Nat}(hj:j<U.length):(U.set j true).getD j false=true:=by rw[aw,List.getElem?_set_self hj];rfl
theorem Dz{U:List Bool}{i j:Nat}{b:Bool}(h:i≠j):(U.set i b).getD j false=U.getD j false:=by rw[aw,List.getElem?_set_ne h,←aw]
theorem fW:∀(l:List Int) (U:List Bool),(iz U l).length=U.length
 |[],_=>rfl
 |n::l,U=>by
  show(iz (bif n != -1 then U.set n.toNat true else U) l).length=_;rw[fW l];cases n != -1<;>simp
theorem jv:∀(l:List Int) (U:List Bool) (i:Nat),us U i→us (iz U l) i
 |[],_,_,h=>h
 |n::l,U,i,h=>by
  show us (iz (bif n != -1 then U.set n.toNat true else U) l) i;refine jv l _ i ?_;cases n != -1 with
  |false=>exact h
  |true=>
   show(U.set n.toNat true).getD i false=true;by_cases e:n.toNat=i
   ·subst e;refine y5 ?_;by_cases hl:n.toNat<U.length
    ·exact hl
    have h:U.getD n.toNat false=true:=h;rw[aw,List.getElem?_eq_none (by omega)]at h;cases h
   rw[Dz e];exact h
theorem my:∀(l:List Int) (U:List Bool) (n:Int),n∈l→0≤n→n.toNat<U.length→us (iz U l) n.toNat
 |[],_,_,h,_,_=>by cases h
 |m::l,U,n,h,h0,h1=>by
  show us (iz (bif m != -1 then U.set m.toNat true else U) l) n.toNat;rcases aL.1 h with rfl|h
  ·refine jv l _ _ ?_;rw[show(n != -1)=true by simp;omega];exact y5 h1
  exact my l _ n h h0 (by cases m != -1<;>simpa using h1)
theorem s6:∀(l:List Int) (U:List Bool) (i:Nat),us (iz U l) i→us U i∨∃n,n∈l∧n≠ -1∧n.toNat=i
 |[],_,_,h=>Or.inl h
 |m::l,U,i,h=>by
  have h:us (iz (bif m != -1 then U.set m.toNat true else U) l) i:=h;rcases s6 l _ i h with h|⟨n,h1,h2⟩
  ·by_cases e:m= -1
   ·subst e;exact Or.inl h
   rw[show(m != -1)=true by simpa using e,ac]at h;by_cases e2:m.toNat=i
   ·exact Or.inr ⟨m,by simp,e,e2⟩
   rw[us,Dz e2]at h;exact Or.inl h
  exact Or.inr ⟨n,by simp[h1],h2⟩
theorem kZ(code:List II):∀(k:Nat) (U:List Bool) (i:Nat),us U i→us (ka code k U) i
 |0,_,_,h=>h
 |k+1,U,i,h=>by
  show us (ka code k _) i;refine kZ code k _ i ?_;cases U.getD k false&&kj (code.getD k II.zero)with
  |true=>exact jv _ _ _ h
  |false=>exact h
theorem wM{code:List II}{k:Nat}(hk:k<code.length):code[k]? =some (code.getD k II.zero):=by rw[aw,ao hk];rfl
theorem rY{code:List II}(hw:WfC code):∀(k:Nat),k≤code.length→∀(U:List Bool) (i:Nat),k≤i→us (ka code k U) i→us U i
 |0,_,_,_,_,h=>h
 |k+1,hk,U,i,hi,h=>by
  have h:us (ka code k (bif U.getD k false&&kj (code.getD k II.zero)then iz U [(code.getD k II.zero).a,(code.getD k II.zero).b]else U)) i:=h;have h1:=rY hw k (by omega) _ i (by omega) h;cases hc:U.getD k false&&kj (code.getD k II.zero)with
  |false=>rw[hc]at h1;exact h1
  |true=>
   rw[hc,ac]at h1;obtain⟨ha,hb⟩:=hw k _ (wM (by omega)) (by simp only[az]at hc;exact hc.2);rcases s6 _ _ _ h1 with h2|⟨n,h2,h3,h4⟩
   ·exact h2
   simp only[aL,bh,or_false]at h2;rcases h2 with rfl|rfl<;>omega
theorem oD{code:List II}(hw:WfC code):∀(k:Nat),k≤code.length→∀(U:List Bool),U.length=code.length→∀(i:Nat),i<k→us (ka code k U) i→kj (code.getD i II.zero)=true→us (ka code k U) (code.getD i II.zero).a.toNat∧us (ka code k U) (code.getD i II.zero).b.toNat
 |0,_,_,_,i,hi,_,_=>absurd hi (by omega)
 |k+1,hk,U,hU,i,hi,h,hab=>by
  obtain⟨U',hU'⟩:∃U',(bif U.getD k false&&kj (code.getD k II.zero)then iz U [(code.getD k II.zero).a,(code.getD k II.zero).b]else U)=U':=⟨_,rfl⟩;have e:ka code (k+1) U=ka code k U':=by rw[←hU'];rfl
  have hl:U'.length=code.length:=by
   rw[←hU',←hU];cases U.getD k false&&kj (code.getD k II.zero)with
   |true=>exact fW _ _
   |false=>rfl
  rw[e]at h⊢;by_cases hik:i=k
  ·subst hik;have h1:=rY hw i (by omega) U' i (aS _) h;obtain⟨ha,hb⟩:=hw i _ (wM (by omega)) hab;have hUi:us U i:=by
    cases hc:U.getD i false&&kj (code.getD i II.zero)with
    |false=>rw[hc,aa]at hU';rw[hU'];exact h1
    |true=>simp only[az]at hc;exact hc.1
   have hc:(U.getD i false&&kj (code.getD i II.zero))=true:=by rw[hab,Bool.and_true];exact hUi
   rw[hc,ac]at hU';rw[←hU'];exact⟨kZ code i _ _ (my _ _ _ (by simp) ha.1 (by omega)),kZ code i _ _ (my _ _ _ (by simp) hb.1 (by omega))⟩
  exact oD hw k (by omega) U' hl i (by omega) h hab
section
variable {D R:List Int}
structure FInv(U:List Bool)(code:List II)(i:Nat)(pl:List Int)(c:List II)(D R:List Int):Prop where
 len:pl.length=code.length
 val:∀n,n<i→us U n→II.in_ (pl.getD n 0) c∧dV D R c (pl.getD n 0)=dV D R code n
def WfO(code:List II):Prop:=∀(i:Nat) (x:II),code[i]? =some x→(x.op=0∨x.op=1∨x.op=2)∨kj x=true
theorem sE{V V':List Int}{x:II}(h:x.op=0∨x.op=1∨x.op=2)(y:II)(h1:y.op=x.op)(h2:y.imm=x.imm):ke D R V y=ke D R V' x:=by
 obtain⟨op,dst,a,b,imm⟩:=x;obtain⟨op2,dst2,a2,b2,imm2⟩:=y;dsimp only at h h1 h2;subst h1 h2;rcases h with rfl|rfl|rfl<;>rfl
theorem vo{V V':List Int}{x y:II}(h1:y.op=x.op)(h2:y.imm=x.imm)(hx:kj x=true)(ha:V.getD y.a.toNat 0=V'.getD x.a.toNat 0)(hb:V.getD y.b.toNat 0=V'.getD x.b.toNat 0):ke D R V y=ke D R V' x:=by
 obtain⟨op,dst,a,b,imm⟩:=x;obtain⟨op2,dst2,a2,b2,imm2⟩:=y;dsimp only at h1 h2 ha hb;subst h1 h2;unfold kj at hx;simp only[Bool.or_eq_true,beq_iff_eq]at hx;rcases hx with rfl|rfl
 ·show(ij imm2 (V.getD a2.toNat 0) (V.getD b2.toNat 0)).1=(ij imm2 (V'.getD a.toNat 0) (V'.getD b.toNat 0)).1;rw[ha,hb]
 show(ij imm2 (V.getD a2.toNat 0) (V.getD b2.toNat 0)).2.1=(ij imm2 (V'.getD a.toNat 0) (V'.getD b.toNat 0)).2.1;rw[ha,hb]
theorem xj{code c:List II}{pl:List Int}{x:II}{n:Nat}(ho:(x.op=0∨x.op=1∨x.op=2)∨kj x=true)(ha:kj x=true→dV D R c (pl.getD x.a.toNat 0)=dV D R code x.a∧dV D R c (pl.getD x.b.toNat 0)=dV D R code x.b):
  ke D R (IF D R c) (mE x pl n)=ke D R (IF D R code) x:=by
 rcases ho with ho|hx
 ·have hx:kj x=false:=by unfold kj;rcases ho with h|h|h<;>rw[h]<;>rfl
  have e:mE x pl n=⟨x.op,n,x.a,x.b,x.imm⟩:=by unfold mE;rw[hx];rfl
  rw[e];exact sE ho _ rfl rfl
 have e:mE x pl n=⟨x.op,n,pl.getD x.a.toNat 0,pl.getD x.b.toNat 0,x.imm⟩:=by unfold mE;rw[hx];rfl
 obtain⟨h1,h2⟩:=ha hx;rw[e];exact vo rfl rfl hx h1 h2
theorem zK{code:List II}(hw:WfC code)(ho:WfO code){i:Nat}{x:II}(hx:code[i]? =some x):dV D R code i=ke D R (IF D R code) x:=by
 obtain⟨hi,hxe⟩:=au.1 hx;have hsp:code=(code.take i++[x])++code.drop (i+1):=by rw[←hxe,aq,List.singleton_append,←List.drop_eq_getElem_cons hi,List.take_append_drop]
 have hl:(code.take i).length=i:=by rw[aF];omega
 have e1:dV D R code i=dV D R (code.take i++[x]) i:=by
  conv=>lhs;rw[hsp]
  exact gS ⟨by omega,by rw[ae,hl];simp;omega⟩
 have e2:dV D R (code.take i++[x]) i=ke D R (IF D R (code.take i)) x:=by
  have:=i3 (D:=D) (R:=R) (code.take i) x;rw[hl]at this;exact this
 rw[e1,e2];rcases ho i x hx with h|h
 ·exact sE h _ rfl rfl
 obtain⟨⟨a1,a2⟩,b1,b2⟩:=hw i x hx h;have hsp2:code=code.take i++code.drop i:=(List.take_append_drop i code).symm;have ea:dV D R code x.a=dV D R (code.take i) x.a:=by
  conv=>lhs;rw[hsp2]
  exact gS ⟨a1,by rw[hl];exact a2⟩
 have eb:dV D R code x.b=dV D R (code.take i) x.b:=by
  conv=>lhs;rw[hsp2]
  exact gS ⟨b1,by rw[hl];exact b2⟩
 exact vo rfl rfl h ea.symm eb.symm
theorem DC{U:List Bool}{code:List II}(hw:WfC code)(ho:WfO code)(hcl:∀(i:Nat) (x:II),code[i]? =some x→us U i→kj x=true→us U x.a.toNat∧us U x.b.toNat):∀(suf:List II) (i:Nat) (pl:List Int) (c:List II),code.drop i=suf→i≤code.length→
  FInv U code i pl c D R→FInv U code code.length (kD U suf i pl c).1 (kD U suf i pl c).2 D R
 |[],i,pl,c,hs,hi,h=>by
  have:code.length=i:=by
   have:=congrArg List.length hs;rw[bn]at this;simp at this;omega
  rw[this];exact h
 |x::suf,i,pl,c,hs,hi,h=>by
  have hil:i<code.length:=by
   have:=congrArg List.length hs;rw[bn]at this;simp at this;omega
  have hx:code[i]? =some x:=by rw[List.drop_eq_getElem_cons hil]at hs;injection hs with h1 h2;rw[ao hil,h1]
  have hs':code.drop (i+1)=suf:=by rw[List.drop_eq_getElem_cons hil]at hs;injection hs
  cases hu:U.getD i false with
  |false=>
   have e:kD U (x::suf) i pl c=kD U suf (i+1) pl c:=by show(bif U.getD i false then _ else _)=_;rw[hu];rfl
   rw[e];refine DC hw ho hcl suf (i+1) pl c hs' (by omega) ⟨h.len,fun n hn hun=>?_⟩;by_cases en:n=i
   ·subst en;rw[us,hu]at hun;cases hun
   exact h.val n (by omega) hun
  |true=>
   have e:kD U (x::suf) i pl c=kD U suf (i+1) (pl.set i (c.length:Int)) (c++[mE x (pl.set i (c.length:Int)) c.length]):=by show(bif U.getD i false then _ else _)=_;rw[hu];rfl
   rw[e];refine DC hw ho hcl suf (i+1) _ _ hs' (by omega) ⟨by rw[aI];exact h.len,fun n hn hun=>?_⟩;have hlen:=h.len;by_cases en:n=i
   ·subst en;rw[cV (by omega)];refine⟨lS _ _,?_⟩;rw[i3,zK hw ho hx];refine xj (ho n x hx) (fun hab=>?_);obtain⟨⟨a1,a2⟩,b1,b2⟩:=hw n x hx hab;obtain⟨ua,ub⟩:=hcl n x hx hu hab;have ea:((x.a.toNat:Nat):Int)=x.a:=by omega
    have eb:((x.b.toNat:Nat):Int)=x.b:=by omega
    have ha:=(h.val x.a.toNat (by omega) ua).2;have hb:=(h.val x.b.toNat (by omega) ub).2;rw[ea]at ha;rw[eb]at hb;rw[cF (by omega),cF (by omega)];exact⟨ha,hb⟩
   obtain⟨h1,h2⟩:=h.val n (by omega) hun;rw[cF (fun x=>en x.symm)];exact⟨pH _ h1,(gS h1).trans h2⟩
structure Raw(p:Pg):Prop where
 wf:WfC p.code
 ops:WfO p.code
 Ij:∀n,n∈p.Ij→II.in_ n p.code
 Ik:∀n,n∈p.Ik→II.in_ n p.code
 flags:p.flags= -1∨II.in_ p.flags p.code
 target:p.target= -1∨II.in_ p.target p.code
theorem BZ{p:Pg}(h:Raw p){n:Int}(hn:n∈p.Ij∨n∈p.Ik∨n=p.flags∨n=p.target)(h0:II.in_ n p.code):
  II.in_ ((ee p).1.getD n.toNat 0) (ee p).2∧dV D R (ee p).2 ((ee p).1.getD n.toNat 0)=dV D R p.code n:=by
 have hl0:(Ay p).length=p.code.length:=by unfold Ay;rw[fW,fW,fW,aM]
 have hcl:∀(i:Nat) (x:II),p.code[i]? =some x→us (fR p) i→kj x=true→us (fR p) x.a.toNat∧us (fR p) x.b.toNat:=fun i x hx hu hab=>by
  have hi:i<p.code.length:=(au.1 hx).1;have e:p.code.getD i II.zero=x:=by rw[aw,hx];rfl
  have:=oD h.wf p.code.length (aS _) (Ay p) hl0 i hi hu (by rw[e];exact hab);rw[e]at this;exact this
 have hF:=DC (D:=D) (R:=R) (U:=fR p) h.wf h.ops hcl p.code 0 (List.replicate p.code.length 0) [] (by simp) (ax _) ⟨by simp,fun n hn=>absurd hn (by omega)⟩;obtain⟨i0,i1⟩:=h0;have en:((n.toNat:Nat):Int)=n:=by omega
 have hu:us (fR p) n.toNat:=by
  refine kZ p.code p.code.length _ _ ?_;unfold Ay;rcases hn with hn|hn|hn
  ·exact jv _ _ _ (jv _ _ _ (my _ _ _ hn i0 (by simp;omega)))
  ·exact jv _ _ _ (my _ _ _ hn i0 (by rw[fW];simp;omega))
  exact my _ _ _ (by simpa using hn) i0 (by rw[fW,fW];simp;omega)
 have:=hF.val n.toNat (by omega) hu;rw[en]at this;exact this
end
def ImC(code:List II):Prop:=∀x,x∈code→0≤x.imm∧x.imm≤4294967295
structure lj(w:Lw):Prop where
 d:∀n,n∈w.d.l→II.in_ n w.code
 r:∀n,n∈w.r.l→II.in_ n w.code
 wf:WfC w.code
 ops:WfO w.code
 flags:w.flags= -1∨II.in_ w.flags w.code
 target:w.target= -1∨II.in_ w.target w.code
 imm:ImC w.code
theorem ImC.snoc{c:List II}{x:II}(h:ImC c)(hx:0≤x.imm∧x.imm≤4294967295):ImC (c++[x]):=fun y hy=>by
 rcases aV.1 hy with h1|h1
 ·exact h y h1
 rw[aN.1 h1];exact hx
theorem WfC.snoc{c:List II}{x:II}(h:WfC c)(hx:kj x=true→(0≤x.a∧x.a<c.length)∧(0≤x.b∧x.b<c.length)):WfC (c++[x]):=fun i y hy hab=>by
 by_cases hi:i<c.length
 ·rw[bD hi]at hy;exact h i y hy hab
 rw[bF (by omega)]at hy;by_cases e:i - c.length=0
 ·rw[e]at hy;obtain rfl:x=y:=by simpa using hy
  have:=hx hab;omega
 rw[List.getElem?_eq_none (by simp;omega)]at hy;cases hy
theorem WfO.snoc{c:List II}{x:II}(h:WfO c)(hx:(x.op=0∨x.op=1∨x.op=2)∨kj x=true):WfO (c++[x]):=fun i y hy=>by
 by_cases hi:i<c.length
 ·rw[bD hi]at hy;exact h i y hy
 rw[bF (by omega)]at hy;by_cases e:i - c.length=0
 ·rw[e]at hy;obtain rfl:x=y:=by simpa using hy
  exact hx
 rw[List.getElem?_eq_none (by simp;omega)]at hy;cases hy
theorem Ck{k:Int}(hk:k=1∨k=2){c:List II}{s:Sd}(h:∀n,n∈s.l→II.in_ n c)(hw:WfC c)(ho:WfO c)(hm_:ImC c):
  II.in_ (eU k c s).1 (eU k c s).2.1∧(∀n,n∈(eU k c s).2.2.l→II.in_ n (eU k c s).2.1)∧WfC (eU k c s).2.1∧WfO (eU k c s).2.1∧ImC (eU k c s).2.1∧∃e,(eU k c s).2.1=c++e:=by
 unfold eU;cases hl:s.l.getLast? with
 |some n=>
  obtain⟨m,hm⟩:∃m,s.l=m++[n]:=List.getLast?_eq_some_iff.1 hl;refine⟨h n (by rw[hm];simp),fun j hj=>h j ?_,hw,ho,hm_,[],by simp⟩;rw[hm]at hj⊢;simp at hj⊢;exact Or.inl hj
 |none=>
  refine⟨lS _ _,fun j hj=>(by cases hj),hw.snoc (fun hab=>?_),ho.snoc (Or.inl ?_),hm_.snoc (by show 0≤IntKind.u32.wrap s.Ic∧IntKind.u32.wrap s.Ic≤_;rw[aE];omega),_,rfl⟩
  ·rcases hk with rfl|rfl<;>cases hab
  rcases hk with rfl|rfl
  ·exact Or.inr (Or.inl rfl)
  exact Or.inr (Or.inr rfl)
theorem AI{c c':List II}{n:Int}(h:II.in_ n c)(he:∃e,c'=c++e):II.in_ n c':=by obtain⟨e,rfl⟩:=he;exact pH e h
theorem Au{c c':List II}{n:Int}(h:n= -1∨II.in_ n c)(he:∃e,c'=c++e):n= -1∨II.in_ n c':=h.imp id fun h=>AI h he
theorem lj.Ig{w:Lw}(h:lj w):lj w.Ig.2∧II.in_ w.Ig.1 w.Ig.2.code∧∃e,w.Ig.2.code=w.code++e:=by
 obtain⟨h1,h2,h3,h4,h6,h5⟩:=Ck (k:=1) (Or.inl rfl) h.d h.wf h.ops h.imm;exact⟨⟨h2,fun n hn=>AI (h.r n hn) h5,h3,h4,Au h.flags h5,Au h.target h5,h6⟩,h1,h5⟩
theorem lj.IJ{w:Lw}(h:lj w):lj w.IJ.2∧II.in_ w.IJ.1 w.IJ.2.code∧∃e,w.IJ.2.code=w.code++e:=by
 obtain⟨h1,h2,h3,h4,h6,h5⟩:=Ck (k:=2) (Or.inr rfl) h.r h.wf h.ops h.imm;exact⟨⟨fun n hn=>AI (h.d n hn) h5,h2,h3,h4,Au h.flags h5,Au h.target h5,h6⟩,h1,h5⟩
theorem lj.pop2{w:Lw}(h:lj w):lj w.Ig.2.Ig.2∧II.in_ w.Ig.1 w.Ig.2.Ig.2.code∧II.in_ w.Ig.2.Ig.1 w.Ig.2.Ig.2.code:=by
 obtain⟨h1,h2, -⟩:=h.Ig;obtain⟨k1,k2,k3⟩:=h1.Ig;exact⟨k1,AI h2 k3,k2⟩
theorem lj.IN{w:Lw}(h:lj w)(l:List Int)(hl:∀n,n∈l→II.in_ n w.code):lj (w.IN l):=⟨fun n hn=>by rcases aV.1 hn with q|q;exact h.d n q;exact hl n q,h.r,h.wf,h.ops,h.flags,h.target,h.imm⟩
theorem lj.Jh{w:Lw}(h:lj w)(l:List Int)(hl:∀n,n∈l→II.in_ n w.code):lj (w.Jh l):=⟨h.d,fun n hn=>by rcases aV.1 hn with q|q;exact h.r n q;exact hl n q,h.wf,h.ops,h.flags,h.target,h.imm⟩
theorem lj.add{w:Lw}(h:lj w)(op a b imm:Int)(him:0≤imm∧imm≤4294967295)(ho:op=0∨((op=3∨op=4)∧II.in_ a w.code∧II.in_ b w.code)):lj (w.add op a b imm)∧II.in_ w.here (w.add op a b imm).code:=by
 have he:∃e,(w.add op a b imm).code=w.code++e:=⟨_,rfl⟩;refine⟨⟨fun n hn=>AI (h.d n hn) he,fun n hn=>AI (h.r n hn) he,h.wf.snoc (fun hab=>?_),h.ops.snoc ?_,Au h.flags he,Au h.target he,h.imm.snoc him⟩,lS _ _⟩
 ·rcases ho with rfl|⟨-,⟨a1,a2⟩,b1,b2⟩
  ·cases hab
  exact⟨⟨a1,a2⟩,b1,b2⟩
 rcases ho with rfl|⟨rfl|rfl, -⟩
 ·exact Or.inl (Or.inl rfl)
 ·exact Or.inr rfl
 exact Or.inr rfl
theorem lj.Ih{w:Lw}(h:lj w):lj w.Ih:=⟨h.d,h.r,h.wf,h.ops,h.flags,h.target,h.imm⟩
theorem lj.wfl{w:Lw}(h:lj w){x:Int}(hx:II.in_ x w.code):lj (w.wfl x):=⟨h.d,h.r,h.wf,h.ops,Or.inr hx,h.target,h.imm⟩
theorem lj.wtg{w:Lw}(h:lj w){x:Int}(hx:II.in_ x w.code):lj (w.wtg x):=⟨h.d,h.r,h.wf,h.ops,h.flags,Or.inr hx,h.imm⟩
theorem lj.wbr{w:Lw}(h:lj w)(x:Int):lj (w.wbr x):=⟨h.d,h.r,h.wf,h.ops,h.flags,h.target,h.imm⟩
theorem FE{op:Int}(hp:dA op=true){w:Lw}(h:lj w){n nx:Int}(hn:u32 n)(hnx:u32 nx):lj (w.one op n nx):=by
 refine lj.Ih ?_;have sing:∀{c:List II} {x:Int},II.in_ x c→∀n,n∈[x]→II.in_ n c:=fun hx n hn=>by rw[aN.1 hn];exact hx
 obtain⟨d1,d2,d3⟩:=h.Ig;obtain⟨r1,r2,r3⟩:=h.IJ;obtain⟨p1,p2,p3⟩:=h.pop2;rcases nO hp with rfl|rfl|rfl|rfl|rfl|rfl|rfl|rfl|rfl|hr|hr|rfl|hr|rfl|rfl|rfl
 ·exact h
 ·exact(h.add 0 0 0 n hn (Or.inl rfl)).1.IN _ (sing (h.add 0 0 0 n hn (Or.inl rfl)).2)
 ·exact(h.add 0 0 0 n hn (Or.inl rfl)).1.IN _ (sing (h.add 0 0 0 n hn (Or.inl rfl)).2)
 ·exact d1.IN _ (fun n hn=>by simp at hn;rw[hn];exact d2)
 ·exact d1
 ·exact p1.IN _ (fun n hn=>by simp at hn;rcases hn with rfl|rfl<;>assumption)
 ·exact p1.IN _ (fun n hn=>by simp at hn;rcases hn with h|h|h<;>rw[h]<;>assumption)
 ·exact d1.Jh _ (sing d2)
 ·exact r1.IN _ (sing r2)
 ·rw[kC (Or.inl hr)];unfold Lw.reckon;rw[show(op !=25)=true by simp;omega];obtain⟨a1,a2⟩:=p1.add 4 w.Ig.2.Ig.1 w.Ig.1 op (by omega) (Or.inr ⟨Or.inr rfl,p3,p2⟩);obtain⟨b1,b2⟩:=(a1.wfl a2).add 3 w.Ig.2.Ig.1 w.Ig.1 op (by omega) (Or.inr ⟨Or.inl rfl,pH _ p3,pH _ p2⟩);exact b1.IN _ (sing b2)
 ·rw[kC (Or.inr hr)];subst hr;obtain⟨a1,a2⟩:=p1.add 4 w.Ig.2.Ig.1 w.Ig.1 25 (by omega) (Or.inr ⟨Or.inr rfl,p3,p2⟩);exact a1.wfl a2
 ·exact h
 ·have h5:op=33∨op=34∨op=35∨op=36∨op=37:=by omega
  rcases h5 with rfl|rfl|rfl|rfl|rfl<;>exact h.wbr _
 ·exact(h.add 0 0 0 nx hnx (Or.inl rfl)).1.Jh _ (sing (h.add 0 0 0 nx hnx (Or.inl rfl)).2)
 ·exact r1.wtg r2
 exact d1.wtg d2
def Lw.init:Lw:=⟨[],⟨[],0,0⟩,⟨[],0,0⟩, -1, -1,0⟩
def lL(pc:Int)(w:Lw):List (Int×Int)→Option (Int×Lw)
 |[]=>some (pc,w)
 |i::l=>bif(!gb i.1 i.2|| !dA i.1)||(gl i.1&& !l.isEmpty)then none else lL (IntKind.u32.wrap (pc+IntKind.u32.wrap (cz i.1))) (w.one i.1 i.2 (IntKind.u32.wrap (pc+IntKind.u32.wrap (cz i.1)))) l
def ur(nx:Int)(w:Lw)(i:Int×Int)(n:Nat):Pg:=
 ⟨w.code,w.d.Ic,w.r.Ic,w.d.high,w.r.high,w.d.l,w.r.l,w.flags,bif i.1==32||i.1==38 then IntKind.u32.wrap (nx+kH i.2)else nx,w.target,w.branch,bif i.1==32||i.1==38 then 0 else bif w.branch !=0 then IntKind.u32.wrap (nx+kH i.2)else 0,n,w.code.length⟩
def fo(pc:Int)(l:List (Int×Int)):Option Pg:=
 bif decide ((l.length:Int)<1)||decide (8<(l.length:Int))then none else
 match lL pc Lw.init l with
 |none=>none
 |some (nx,w)=>some (cI (ur nx w (l.getLastD (0,0)) l.length))
theorem qZ:lj Lw.init:=⟨fun _ h=>(by cases h),fun _ h=>(by cases h),fun _ _ h=>(by cases h),fun _ _ h=>(by cases h),Or.inl rfl,Or.inl rfl,fun _ h=>(by cases h)⟩
theorem kB{pc:Int}{w:Lw}{i:Int×Int}{l:List (Int×Int)}{q:Int×Lw}(h:lL pc w (i::l)=some q):
  gb i.1 i.2=true∧dA i.1=true∧(l≠[]→gl i.1=false)∧lL (IntKind.u32.wrap (pc+IntKind.u32.wrap (cz i.1))) (w.one i.1 i.2 (IntKind.u32.wrap (pc+IntKind.u32.wrap (cz i.1)))) l=some q:=by
 have h:(bif(!gb i.1 i.2|| !dA i.1)||(gl i.1&& !l.isEmpty)then none else lL (IntKind.u32.wrap (pc+IntKind.u32.wrap (cz i.1))) (w.one i.1 i.2 (IntKind.u32.wrap (pc+IntKind.u32.wrap (cz i.1)))) l)=some q:=h;cases hc:(!gb i.1 i.2|| !dA i.1)||(gl i.1&& !l.isEmpty)with
 |true=>rw[hc]at h;cases h
 |false=>
  rw[hc,aa]at h;simp only[bj,Bool.not_eq_false',Bool.and_eq_false_iff]at hc;refine⟨hc.1.1,hc.1.2,fun hl=>?_,h⟩;rcases hc.2 with h1|h1
  ·exact h1
  cases l with
  |nil=>exact absurd rfl hl
  |cons=>cases h1
theorem sG(x:Int):u32 (IntKind.u32.wrap x):=by unfold u32;rw[aE];omega
theorem qf:∀(l:List (Int×Int)) (pc:Int) (w:Lw) (q:Int×Lw),(∀i,i∈l→u32 i.2)→lL pc w l=some q→lj w→lj q.2∧fD w q.2∧(l≠[]→u32 q.1)
 |[],pc,w,q,_,h,hw=>by obtain rfl:(pc,w)=q:=aG h;exact⟨hw,fD.refl _,fun e=>absurd rfl e⟩
 |i::l,pc,w,q,hu,h,hw=>by
  obtain⟨-,h2, -,h4⟩:=kB h;obtain⟨k1,k2,k3⟩:=qf l _ _ q (fun j hj=>hu j (bA _ hj)) h4 (FE h2 hw (hu i (by simp)) (sG _));refine⟨k1,(vT h2 w _ _).trans k2,fun _=>?_⟩;cases l with
  |nil=>obtain rfl:=aG h4;exact sG _
  |cons j l=>exact k3 (by simp)
theorem Eg{b:Bool}{x y:Run}(hx:x.device=false)(hy:y.device=false):(bif b then x else y).device=false:=by cases b<;>assumption
section
variable {n:Nat} {op nn:Int} {s:St} {U:Mmu} {d:Dev}
theorem Cu(h:dA op=true):∃R:Run,R.device=false∧kA n s op nn U d=⟨R,U,d⟩∧vY s op nn=R:=by
 have hc:op=0∨op=1∨op=2∨op=3∨op=4∨op=5∨op=6∨op=7∨op=8∨op=16∨op=17∨op=18∨op=19∨op=20∨op=21∨op=22∨op=23∨op=25∨op=32∨op=33∨op=34∨op=35∨op=36∨op=37∨op=38∨op=39∨op=40:=by
  rcases iP h with h|h|h|h<;>omega
 rcases hc with rfl|rfl|rfl|rfl|rfl|rfl|rfl|rfl|rfl|rfl|rfl|rfl|rfl|rfl|rfl|rfl|rfl|rfl|rfl|rfl|rfl|rfl|rfl|rfl|rfl|rfl|rfl<;>
  first
  |exact⟨_,rfl,rfl,rfl⟩
  |exact⟨_,Eg rfl rfl,rfl,rfl⟩
  |(refine⟨_,?_,rfl,rfl⟩;exact Eg (b:=(ij _ (eW s _).pop.top (eW s _).top).2.2) (x:=(eW s _).pop.pop) (y:=(eW s _).pop.pop.wt ⟨5,0⟩) rfl rfl)
theorem yI(h:dA op=true)(hr:s.right=true):sq n s op nn U d=(doN s op nn,⟨U.m.calm,U.t⟩,d)∧(doN s op nn).device=false∧(doN s op nn).H8=[]:=by
 obtain⟨R,h1,h2,h3⟩:=Cu (n:=n) (s:=s) (nn:=nn) (U:=⟨U.m.calm,U.t⟩) (d:=d) h;unfold sq doN;rw[hr,h2,h3];simp only[Bool.not_true,aa];cases(eO s op nn !=0)with
 |true=>exact⟨rfl,rfl,rfl⟩
 |false=>
  simp only[aa];have e:uX s ⟨R,⟨U.m.calm,U.t⟩,d⟩=HJ s R:=by
   unfold uX HJ;rw[show iw U.m.calm.Ii 64=[]from zO]
  rw[e];unfold HJ;cases(R.Io.Ie !=0)with
  |true=>exact⟨rfl,h1,rfl⟩
  |false=>exact⟨rfl,h1,rfl⟩
theorem xD(h:dA op=true)(hw:s.wf)(hr:s.right=true)(hnn:u32 nn)(hU:UOk n U)(hd:d.ok):(doN s op nn).s.wf∧(doN s op nn).s.right=true:=by
 have hg:=u5 (op:=op) (nn:=nn) hw hr hnn hU hd;rw[(yI (n:=n) (nn:=nn) (U:=U) (d:=d) h hr).1]at hg;exact⟨hg.wf,hg.right⟩
end
inductive Bd:List (Int×Int)→St→St→Prop
 |nil (s:St):Bd [] s s
 |cons {op nn:Int} {l:List (Int×Int)} {s s1 s2:St} (hp:dA op=true) (hr:s.right=true) (h:doN s op nn=⟨s1,false,false,[]⟩) (hm:l≠[]→gl op=false∧s1.pc=dP s op) (k:Bd l s1 s2):Bd ((op,nn)::l) s s2
def H6(s s':St)(k:Nat):Prop:=s'=⟨s'.pc,s'.d,s'.r,s'.flags,s.If,s.Il,s.ie,s.root,s.vec,s.epc,s.Ie,s.addr,s.Ip,s.eie,IntKind.u64.wrap (s.count+k),s.halted⟩
theorem H6.trans{a b c:St}{j:Nat}(h:H6 a b 1)(k:H6 b c j):H6 a c (j+1):=by
 unfold H6 at h k⊢;rw[h]at k;dsimp only at k;rw[k];have e:IntKind.u64.wrap (IntKind.u64.wrap (a.count+((1:Nat):Int))+(j:Int))=IntKind.u64.wrap (a.count+((j+1:Nat):Int)):=by simp only[aU];omega
 rw[e]
theorem DS{op:Int}(hp:dA op=true)(h:gl op=false):op<32:=by
 unfold gl at h;simp only[bj,Bool.and_eq_false_iff,aj]at h;rcases iP hp with q|q|q|q<;>omega
theorem yP{n:Nat}{U:Mmu}{d:Dev}(hU:UOk n U)(hdv:d.ok){D R:List Int}{f0:Int}(hD:D.length≤16)(hR:R.length≤16):∀(l:List (Int×Int)) (s:St) (w:Lw) (q:Int×Lw),l≠[]→(∀i,i∈l→u32 i.2)→lL s.pc w l=some q→s.wf→s.right=true→
  LI D R w s.d s.r→FL D R f0 w s.flags→w.target= -1→w.branch=0→q.2.d.Ic≤(D.length:Int)→q.2.r.Ic≤(R.length:Int)→(D.length:Int)+q.2.d.high≤16→(R.length:Int)+q.2.r.high≤16→
  ∃s',Bd l s s'∧s'.wf∧s'.right=true∧LI D R q.2 s'.d s'.r∧FL D R f0 q.2 s'.flags∧s'.pc=pv D R q.2 (l.getLastD (0,0)).1 (l.getLastD (0,0)).2 q.1 s'.flags∧H6 s s' l.length∧(((l.getLastD (0,0)).1==32||(l.getLastD (0,0)).1==38)=true→q.2.branch=0)
 |[],_,_,_,hl,_,_,_,_,_,_,_,_,_,_,_,_=>absurd rfl hl
 |(op,nn)::l,s,w,q,hl,hu,h,hwf,hr,hli,hfl,htg,hbr,n1,n2,g1,g2=>by
  obtain⟨h1,h2,h3,h4⟩:=kB h;dsimp only at h1 h2 h3 h4;have hm:fD (w.one op nn (dP s op)) q.2:=by
   have:∀(l:List (Int×Int)) (pc:Int) (w:Lw) (q:Int×Lw),lL pc w l=some q→fD w q.2:=by
    intro l
    induction l with
    |nil=>intro pc w q h;obtain rfl:(pc,w)=q:=aG h;exact fD.refl _
    |cons i l ih=>intro pc w q h;obtain⟨-,h2, -,h4⟩:=kB h;exact(vT h2 w _ _).trans (ih _ _ _ h4)
   exact this l _ _ q h4
  have hnn:u32 nn:=hu (op,nn) (by simp);obtain⟨s1,hs⟩:=one_ok (nn:=nn) h2 h1 hr hli hfl hD hR htg hbr (Int.le_trans hm.nd n1) (Int.le_trans hm.nr n2) (by have:=hm.hd;omega) (by have:=hm.hr;omega);have hgo:=xD (nn:=nn) h2 hwf hr hnn hU hdv;rw[hs.did]at hgo;have hk1:H6 s s1 1:=hs.rest;cases l with
  |nil=>
   obtain rfl:(dP s op,w.one op nn (dP s op))=q:=aG h4;exact⟨s1,.cons h2 hr hs.did (fun e=>absurd rfl e) (.nil s1),hgo.1,hgo.2,hs.li,hs.fl,hs.pc,hk1,fun he=>(by
    have he:(op==32||op==38)=true:=he;simp only[Bool.or_eq_true,beq_iff_eq]at he;rcases he with rfl|rfl<;>exact hbr)⟩
  |cons j l=>
   have he:=h3 (by simp);have hlt:=DS h2 he;obtain⟨t1,b1⟩:=hs.going hlt;have hpc:s1.pc=dP s op:=hs.pc.trans (qm b1 t1 (by
    have e1:(op==32)=false:=by simp;omega
    have e2:(op==38)=false:=by simp;omega
    rw[e1,e2];rfl))
   have h4:lL s1.pc (w.one op nn (dP s op)) (j::l)=some q:=by rw[hpc];exact h4
   obtain⟨s',c1,c2,c3,c4,c5,c6,c7,c8⟩:=yP hU hdv hD hR (j::l) s1 (w.one op nn (dP s op)) q (by simp) (fun i hi=>hu i (bA _ hi)) h4 hgo.1 hgo.2 hs.li hs.fl t1 b1 n1 n2 g1 g2;exact⟨s',.cons h2 hr hs.did (fun _=>⟨he,hpc⟩) c1,c2,c3,c4,c5,c6,hk1.trans c7,c8⟩
def nq(n at_:Int):Bool:=decide (0≤n)&&decide (n<at_)
def oz(l:List Int):Bool:=l.all fun n=>decide (0≤n)&&decide (n≤16)
def jb(Ia Ib:Int)(i:Nat)(x:II):Bool:=
 bif x.dst !=i then false else
 bif x.op==0 then x.a==0&&x.b==0 else
 bif x.op==1 then(x.a==0&&x.b==0)&&decide (x.imm<Ia)else
 bif x.op==2 then(x.a==0&&x.b==0)&&decide (x.imm<Ib)else
 bif x.op==3 then((nq x.a i&&nq x.b i)&&decide (16≤x.imm))&&decide (x.imm≤23)else
 bif x.op==4 then(nq x.a i&&nq x.b i)&&((decide (16≤x.imm)&&decide (x.imm≤23))||x.imm==25)else false
def iF(Ia Ib:Int):List II→Nat→Bool
 |[],_=>true
 |x::c,i=>jb Ia Ib i x&&iF Ia Ib c (i+1)
def Pg.IU(p:Pg):Bool:=oz [p.Ia,p.Ib,p.IB,p.ID]&&(!decide (p.count<1)&& !decide (8<p.count))
def Pg.IT(p:Pg):Bool:=
 (!((p.flags != -1&& !nq p.flags p.code.length)||(p.target != -1&& !nq p.target p.code.length)))&&(p.branch==0||((decide (33≤p.branch)&&decide (p.branch≤37))&&p.target== -1))
def Pg.In(p:Pg):Bool:=p.IU&&(iF p.Ia p.Ib p.code 0&&((p.Ij.all fun n=>nq n p.code.length)&&((p.Ik.all fun n=>nq n p.code.length)&&p.IT)))
def dN(p:Pg):Pl:=gJ (gi p) 7 p.code.length p.code.length
theorem pt{Ia Ib:Int}:∀(c:List II) (i:Nat),iF Ia Ib c i=true→∀(j:Nat) (x:II),c[j]? =some x→jb Ia Ib (i+j) x=true
 |[],_,_,j,x,h=>by cases h
 |y::c,i,hm,0,x,h=>by
  have hm:(jb Ia Ib i y&&iF Ia Ib c (i+1))=true:=hm;rw[az]at hm;obtain rfl:y=x:=by simpa using h
  exact hm.1
 |y::c,i,hm,j+1,x,h=>by
  have hm:(jb Ia Ib i y&&iF Ia Ib c (i+1))=true:=hm;rw[az]at hm;have:=pt c (i+1) hm.2 j x (by simpa using h);rwa[show i+1+j=i+(j+1) by omega]at this
theorem made_ok{Ia Ib:Int}{i:Nat}{x:II}(h:jb Ia Ib i x=true)(him:0≤x.imm∧x.imm≤4294967295):x.ok Ia Ib i:=by
 obtain⟨op,dst,a,b,imm⟩:=x;unfold jb at h;dsimp only at h him;cases h0:dst !=(i:Int)with
 |true=>rw[h0]at h;cases h
 |false=>
 rw[h0,aa]at h;cases c0:op==0 with
 |true=>exact⟨him,Or.inl (by simpa using c0),fun hab=>by simp at c0;dsimp only at hab;omega⟩
 |false=>
 rw[c0,aa]at h;cases c1:op==1 with
 |true=>
  rw[c1,ac]at h;simp only[az,ap,beq_iff_eq]at h c1;exact⟨him,Or.inr (Or.inl ⟨c1,h.2⟩),fun hab=>by dsimp only at hab;omega⟩
 |false=>
 rw[c1,aa]at h;cases c2:op==2 with
 |true=>
  rw[c2,ac]at h;simp only[az,ap,beq_iff_eq]at h c2;exact⟨him,Or.inr (Or.inr (Or.inl ⟨c2,h.2⟩)),fun hab=>by dsimp only at hab;omega⟩
 |false=>
 rw[c2,aa]at h;cases c3:op==3 with
 |true=>
  rw[c3,ac]at h;simp only[nq,az,ap,beq_iff_eq]at h c3;exact⟨him,Or.inr (Or.inr (Or.inr (Or.inl ⟨c3,h.1.2,h.2⟩))),fun _=>⟨h.1.1.1,h.1.1.2⟩⟩
 |false=>
 rw[c3,aa]at h;cases c4:op==4 with
 |true=>
  rw[c4,ac]at h;simp only[nq,az,Bool.or_eq_true,ap,beq_iff_eq]at h c4;exact⟨him,Or.inr (Or.inr (Or.inr (Or.inr ⟨c4,h.2⟩))),fun _=>⟨h.1.1,h.1.2⟩⟩
 |false=>rw[c4,aa]at h;cases h
theorem qN{p:Pg}(h:p.In=true)(him:ImC p.code)(hn:p.code.length≤64)(hnx:u32 p.next)(htk:u32 p.taken):PgOk p (gi p)∧(p.branch≠0→p.target= -1)∧(p.flags= -1∨0≤p.flags)∧(p.target= -1∨0≤p.target):=by
 unfold Pg.In Pg.IU Pg.IT oz at h;simp only[az,Bool.not_eq_true',Bool.or_eq_true,bj,Bool.and_eq_false_iff,ap,aj,List.all_cons,List.all_nil,bo,beq_iff_eq,bne_eq_false_iff_eq,Bool.not_eq_false',nq]at h;obtain⟨⟨⟨d1,d2,d3,d4, -⟩,c1,c2⟩,hm,hoD,hoR,⟨hf,ht⟩,hb⟩:=h;have hok:OkC p.Ia p.Ib p.code:=fun n x hx=>by
  have:=pt p.code 0 hm n x hx;rw[bl]at this;exact made_ok this (him x (aJ hx))
 refine⟨⟨hok,fun n x hx ho=>?_,fun n hn=>⟨(hoD n hn).1,(hoD n hn).2,nT p (Or.inl hn) (hoD n hn)⟩,fun n hn=>⟨(hoR n hn).1,(hoR n hn).2,nT p (Or.inr (Or.inl hn)) (hoR n hn)⟩,fun h0=>?_,fun h0=>?_,?_,hn,d1,d2,d3,d4,hnx,htk,by omega⟩,?_,?_,?_⟩
 ·have hl:=(au.1 hx).1;obtain⟨a,b⟩:=(hok n x hx).ab ho;exact CQ p hx (by unfold kj;rcases ho with e|e<;>rw[e]<;>rfl) ⟨a.1,by omega⟩ ⟨b.1,by omega⟩
 ·have hf:0≤p.flags∧p.flags<p.code.length:=by rcases hf with e|e;omega;exact e
  exact⟨hf.2,nT p (Or.inr (Or.inr (Or.inl rfl))) hf⟩
 ·have ht:0≤p.target∧p.target<p.code.length:=by rcases ht with e|e;omega;exact e
  exact⟨ht.2,nT p (Or.inr (Or.inr (Or.inr rfl))) ht⟩
 ·rcases hb with e|e
  ·exact Or.inl e
  exact Or.inr e.1
 ·intro hne;rcases hb with e|e
  ·exact absurd e hne
  exact e.2
 ·rcases hf with e|e
  ·exact Or.inl e
  exact Or.inr e.1
 rcases ht with e|e
 ·exact Or.inl e
 exact Or.inr e.1
theorem ux(k:Int)(c:List II)(s:Sd):(eU k c s).2.1.length≤c.length+1:=by
 unfold eU;cases s.l.getLast? with
 |some n=>exact Nat.le_succ _
 |none=>simp
theorem one_len{op:Int}(hp:dA op=true)(w:Lw)(n nx:Int):(w.one op n nx).code.length≤w.code.length+4:=by
 have hD:w.Ig.2.code.length≤w.code.length+1:=ux 1 w.code w.d;have hR:w.IJ.2.code.length≤w.code.length+1:=ux 2 w.code w.r;have hP:w.Ig.2.Ig.2.code.length≤w.code.length+2:=a9 (ux 1 w.Ig.2.code w.Ig.2.d) (by omega);have hA:∀(v:Lw) (a b c d:Int),(v.add a b c d).code.length=v.code.length+1:=fun v a b c d=>by simp[Lw.add]
 rcases nO hp with rfl|rfl|rfl|rfl|rfl|rfl|rfl|rfl|rfl|hr|hr|rfl|hr|rfl|rfl|rfl
 ·exact Nat.le_add_right _ _
 ·show(w.add 0 0 0 n).code.length≤_;rw[hA];omega
 ·show(w.add 0 0 0 n).code.length≤_;rw[hA];omega
 ·show w.Ig.2.code.length≤_;omega
 ·show w.Ig.2.code.length≤_;omega
 ·show w.Ig.2.Ig.2.code.length≤_;omega
 ·show w.Ig.2.Ig.2.code.length≤_;omega
 ·show w.Ig.2.code.length≤_;omega
 ·show w.IJ.2.code.length≤_;omega
 ·show(w.go op n nx).code.length≤_;rw[kC (Or.inl hr)];unfold Lw.reckon;rw[show(op !=25)=true by simp;omega];show(((w.Ig.2.Ig.2.add 4 w.Ig.2.Ig.1 w.Ig.1 op).wfl w.Ig.2.Ig.2.here).add 3 w.Ig.2.Ig.1 w.Ig.1 op).code.length≤_;rw[hA];show(w.Ig.2.Ig.2.add 4 w.Ig.2.Ig.1 w.Ig.1 op).code.length+1≤_;rw[hA];omega
 ·subst hr;show(w.Ig.2.Ig.2.add 4 w.Ig.2.Ig.1 w.Ig.1 25).code.length≤_;rw[hA];omega
 ·exact Nat.le_add_right _ _
 ·have h5:op=33∨op=34∨op=35∨op=36∨op=37:=by omega
  rcases h5 with rfl|rfl|rfl|rfl|rfl<;>exact Nat.le_add_right _ _
 ·show(w.add 0 0 0 nx).code.length≤_;rw[hA];omega
 ·show w.IJ.2.code.length≤_;omega
 show w.Ig.2.code.length≤_;omega
theorem q5:∀(l:List (Int×Int)) (pc:Int) (w:Lw) (q:Int×Lw),lL pc w l=some q→q.2.code.length≤w.code.length+4*l.length
 |[],pc,w,q,h=>by obtain rfl:(pc,w)=q:=aG h;exact aS _
 |i::l,pc,w,q,h=>by
  obtain⟨-,h2, -,h4⟩:=kB h;have h5:=q5 l _ _ q h4;have h6:=one_len h2 w i.2 (IntKind.u32.wrap (pc+IntKind.u32.wrap (cz i.1)));simp only[ai];omega
theorem oa(U:List Bool):∀(suf:List II) (i:Nat) (pl:List Int) (c:List II),(kD U suf i pl c).2.length≤c.length+suf.length
 |[],_,_,_=>aS _
 |x::suf,i,pl,c=>by
  show(bif U.getD i false then kD U suf (i+1) _ _ else kD U suf (i+1) pl c).2.length≤_;cases U.getD i false with
  |true=>have:=oa U suf (i+1) (pl.set i (c.length:Int)) (c++[mE x (pl.set i (c.length:Int)) c.length]);simp at this⊢;omega
  |false=>have:=oa U suf (i+1) pl c;simp at this⊢;omega
theorem oc(U:List Bool):∀(suf:List II) (i:Nat) (pl:List Int) (c:List II),ImC c→ImC suf→ImC (kD U suf i pl c).2
 |[],_,_,_,h,_=>h
 |x::suf,i,pl,c,h,hs=>by
  show ImC (bif U.getD i false then kD U suf (i+1) _ _ else kD U suf (i+1) pl c).2;have hs':ImC suf:=fun y hy=>hs y (bA _ hy)
  cases U.getD i false with
  |true=>
   refine oc U suf (i+1) _ _ (h.snoc ?_) hs';have:=hs x (by simp);unfold mE;cases kj x<;>exact this
  |false=>exact oc U suf (i+1) pl c h hs'
def fS(W:List Int)(from_ n:Nat):List Int:=(List.range n).map fun k=>W.getD (from_+k) 0
def mF(W:List Int)(s:St):St:=⟨W.getD 0 0,fS W 4 (W.getD 2 0).toNat,fS W 20 (W.getD 3 0).toNat,W.getD 1 0,s.If,s.Il,s.ie,s.root,s.vec,s.epc,s.Ie,s.addr,s.Ip,s.eie,IntKind.u64.wrap (s.count+W.getD 36 0),s.halted⟩
theorem vv{W D out:List Int}{f k:Nat}{n:Int}(hn:n=((D.length - k+out.length:Nat):Int))(hlow:∀i,i<D.length - k→W.getD (f+i) 0=D.getD i 0)(hnew:∀i,i<out.length→W.getD (f+(D.length - k)+i) 0=out.getD i 0):
  fS W f n.toNat=D.take (D.length - k)++out:=by
 subst hn;rw[aQ];have hl:(D.take (D.length - k)).length=D.length - k:=by rw[aF];omega
 apply List.ext_getElem?;intro i;unfold fS;rw[aZ];by_cases hi:i<D.length - k+out.length
 ·rw[List.getElem?_range hi];by_cases h1:i<D.length - k
  ·rw[bD (by omega),List.getElem?_take,if_pos h1];show some (W.getD (f+i) 0)=_;rw[hlow i h1,aw,ao (show i<D.length by omega)];rfl
  rw[bF (by omega),hl];show some (W.getD (f+i) 0)=_;have:=hnew (i - (D.length - k)) (by omega);rw[show f+(D.length - k)+(i - (D.length - k))=f+i by omega]at this;rw[this,aw,ao (show i - (D.length - k)<out.length by omega)];rfl
 rw[List.getElem?_eq_none (by simp;omega),List.getElem?_eq_none (by rw[ae,hl];omega)];rfl
theorem yo{n:Nat}{U:Mmu}{d:Dev}(hU:UOk n U)(hdv:d.ok){s:St}(hwf:s.wf)(hr:s.right=true){l:List (Int×Int)}(hu:∀i,i∈l→u32 i.2){p:Pg}(hlow:fo s.pc l=some p)(hright:p.In=true){M:HM}{f:Nat}
  (iR:iR (gm p (dN p)) f ⟨List.replicate 16 0,IK s,0⟩=((1,1),M)):
  Bd l s (mF M.words s)∧(mF M.words s).wf∧(mF M.words s).right=true∧H6 s (mF M.words s) l.length∧1≤l.length∧l.length≤8∧M.words.getD 2 0≤16∧M.words.getD 3 0≤16∧M.words.getD 1 0≤15:=by
 obtain⟨hd16,hr16, -⟩:=St.fits hr;unfold fo at hlow;cases hlen:decide ((l.length:Int)<1)||decide (8<(l.length:Int))with
 |true=>rw[hlen]at hlow;cases hlow
 |false=>
 rw[hlen,aa]at hlow;simp only[bj,aj]at hlen;have hl0:l≠[]:=fun e=>by rw[e]at hlen;simp at hlen
 cases hgo:lL s.pc Lw.init l with
 |none=>rw[hgo]at hlow;cases hlow
 |some q=>
 rw[hgo]at hlow;obtain⟨nx,w⟩:=q;obtain rfl:=aG hlow;obtain⟨lk, -,hnx⟩:=qf l s.pc Lw.init _ hu hgo qZ;have hnx:=hnx hl0;dsimp only at lk hnx;obtain⟨i,hi⟩:=Zgn (l.getLastD (0,0));rw[hi]at hright iR;obtain⟨p0,hp0⟩:=Zgn (ur nx w i l.length);rw[hp0]at hright iR;have f1:p0.code=w.code:=by rw[←hp0];rfl
 have f2:p0.Ij=w.d.l:=by rw[←hp0];rfl
 have f3:p0.Ik=w.r.l:=by rw[←hp0];rfl
 have f4:p0.flags=w.flags:=by rw[←hp0];rfl
 have f5:p0.target=w.target:=by rw[←hp0];rfl
 have f6:p0.branch=w.branch:=by rw[←hp0];rfl
 have raw:Raw p0:=⟨by rw[f1];exact lk.wf,by rw[f1];exact lk.ops,by rw[f1,f2];exact lk.d,by rw[f1,f3];exact lk.r,by rw[f1,f4];exact lk.flags,by rw[f1,f5];exact lk.target⟩;have g1:(cI p0).Ia=w.d.Ic:=by rw[←hp0];rfl
 have g2:(cI p0).Ib=w.r.Ic:=by rw[←hp0];rfl
 have g3:(cI p0).IB=w.d.high:=by rw[←hp0];rfl
 have g4:(cI p0).ID=w.r.high:=by rw[←hp0];rfl
 have g5:(cI p0).next=bif i.1==32||i.1==38 then IntKind.u32.wrap (nx+kH i.2)else nx:=by rw[←hp0];rfl
 have g6:(cI p0).taken=bif i.1==32||i.1==38 then 0 else bif w.branch !=0 then IntKind.u32.wrap (nx+kH i.2)else 0:=by rw[←hp0];rfl
 have g7:(cI p0).branch=w.branch:=by rw[←hp0];rfl
 have g8:(cI p0).count=l.length:=by rw[←hp0];rfl
 have hlen4:=q5 l s.pc Lw.init _ hgo;have hlen5:w.code.length≤32:=by have:Lw.init.code.length=0:=rfl;dsimp only at hlen4;omega
 have hlen6:(cI p0).code.length≤64:=by
  have:=oa (fR p0) p0.code 0 (List.replicate p0.code.length 0) [];have e:(cI p0).code=(kD (fR p0) p0.code 0 (List.replicate p0.code.length 0) []).2:=rfl;rw[e];rw[f1]at this⊢;simp at this;omega
 have himc:ImC (cI p0).code:=oc (fR p0) p0.code 0 _ [] (fun _ h=>by cases h) (by rw[f1];exact lk.imm);have hn32:u32 (cI p0).next:=by rw[g5];cases i.1==32||i.1==38 with|true=>exact sG _|false=>exact hnx
 have ht32:u32 (cI p0).taken:=by
  have z:u32 0:=⟨by decide,by decide⟩;rw[g6];cases i.1==32||i.1==38 with
  |true=>exact z
  |false=>cases w.branch !=0 with
   |true=>exact sG _
   |false=>exact z
 obtain⟨pok,pbt,pfl,ptg⟩:=qN hright himc hlen6 hn32 ht32;have hplan:Et (dN (cI p0)) (gi (cI p0)) (cI p0).code.length:=Cs (fun i hi=>CR (cI p0) hi) hlen6;have hgo2:HGo (gm (cI p0) (dN (cI p0))) 0 (gm (cI p0) (dN (cI p0))) (List.replicate 16 0) (IK s) M:=⟨List.drop_zero,by simp,yH s,f,iR⟩;have left:=Gu pok hplan hr hwf hgo2;have li0:LI s.d s.r Lw.init s.d s.r:=⟨⟨bE _,by show(0:Int)≤_;omega,by show s.d=s.d.take (s.d.length - (0:Int).toNat)++[];simp,fun _ h=>by cases h⟩,⟨bE _,by show(0:Int)≤_;omega,by show s.r=s.r.take (s.r.length - (0:Int).toNat)++[];simp,fun _ h=>by cases h⟩⟩;have n1:=left.Ia;have n2:=left.Ib;have n3:=left.IB;have n4:=left.ID;rw[g1]at n1;rw[g2]at n2;rw[g3]at n3;rw[g4]at n4;obtain⟨s',c1,c2,c3,c4,c5,c6,c7,c8⟩:=yP hU hdv hd16 hr16 l s Lw.init (nx,w) hl0 hu hgo hwf hr li0 (Or.inl ⟨rfl,rfl⟩) rfl rfl n1 n2 n3 n4;rw[hi]at c6 c8;dsimp only at c4 c5 c6 c8;obtain⟨V,hV⟩:=Zgn (IF s.d s.r (cI p0).code);have hmv:∀m,(m∈p0.Ij∨m∈p0.Ik∨m=p0.flags∨m=p0.target)→II.in_ m w.code→0≤(ee p0).1.getD m.toNat 0∧V.getD ((ee p0).1.getD m.toNat 0).toNat 0=dV s.d s.r w.code m:=fun m h1 h2=>by
  have h3:=BZ (D:=s.d) (R:=s.r) raw h1 (by rw[f1];exact h2);rw[f1]at h3;refine⟨h3.1.1,?_⟩;rw[←hV];exact h3.2
 rw[hV]at left;have hoD:(cI p0).Ij=cP (ee p0).1 w.d.l:=by rw[←f2];rfl
 have hoR:(cI p0).Ik=cP (ee p0).1 w.r.l:=by rw[←f3];rfl
 have hfl:(cI p0).flags=ek (ee p0).1 w.flags:=by rw[←f4];rfl
 have htg:(cI p0).target=ek (ee p0).1 w.target:=by rw[←f5];rfl
 have hc3:=c3;obtain⟨-, -,fl15⟩:=St.fits c3;have hfl0:=c2.flags;have eF:(cI p0).Ja V s.flags=s'.flags:=by
  unfold Pg.Ja;rw[hfl];rcases c5 with⟨q1,q2⟩|⟨q1,q2⟩
  ·rw[q1];exact q2.symm
  have hne:w.flags≠ -1:=by have:=q1.1;omega
  have h3:=hmv w.flags (by rw[f4];simp) q1;unfold ek;rw[show(w.flags != -1)=true by simpa using hne,ac,aB h3.1,ac,h3.2,←q2];have:=hfl0.1;omega
 have ePc:(cI p0).I1 V s'.flags=s'.pc:=by
  rw[c6];unfold Pg.I1 pv;rw[htg,g5,g6,g7];rw[htg]at ptg pbt;rw[g7]at pbt;by_cases ht:w.target= -1
  ·have em:ek (ee p0).1 w.target= -1:=by unfold ek;rw[ht];rfl
   rw[em,show decide ((0:Int)≤ -1)=false from rfl,aa,ht,show((-1:Int)== -1)=true from rfl,ac];cases hh:(dc w.branch s'.flags).1 with
   |false=>rfl
   |true=>
    have hb:w.branch≠0:=fun e=>by rw[e]at hh;cases hh
    have hop:(i.1==32||i.1==38)=false:=by
     cases he:(i.1==32||i.1==38)with
     |false=>rfl
     |true=>exact absurd (c8 he) hb
    rw[hop,show(w.branch !=0)=true by simpa using hb];rfl
  have hin:II.in_ w.target w.code:=by rcases lk.target with e|e;exact absurd e ht;exact e
  have h3:=hmv w.target (by rw[f5];simp) hin;have em:ek (ee p0).1 w.target=(ee p0).1.getD w.target.toNat 0:=by unfold ek;rw[show(w.target != -1)=true by simpa using ht];rfl
  have hb0:w.branch=0:=by
   by_cases hb:w.branch=0
   ·exact hb
   have:=pbt hb;rw[em]at this;have:=h3.1;omega
  rw[em,aB h3.1,ac,h3.2,hb0,show(dc 0 s'.flags).1=false from rfl,aa,show(w.target== -1)=false by simpa using ht];rfl
 have Jk:(cI p0).Ij.length=w.d.l.length:=by rw[hoD];simp[cP]
 have lenR:(cI p0).Ik.length=w.r.l.length:=by rw[hoR];simp[cP]
 have outsEq:∀(L:List Int),(∀m,m∈L→(m∈p0.Ij∨m∈p0.Ik∨m=p0.flags∨m=p0.target)∧II.in_ m w.code)→∀j,j<L.length→V.getD ((cP (ee p0).1 L).getD j 0).toNat 0=(L.map (dV s.d s.r w.code)).getD j 0:=fun L hL j hj=>by
  have hm:L[j]? =some L[j]:=ao hj;obtain⟨h1,h2⟩:=hL L[j] (List.getElem_mem hj);have e1:(cP (ee p0).1 L).getD j 0=(ee p0).1.getD (L[j]).toNat 0:=by unfold cP;rw[aw,aZ,hm];rfl
  have e2:(L.map (dV s.d s.r w.code)).getD j 0=dV s.d s.r w.code L[j]:=by rw[aw,aZ,hm];rfl
  rw[e1,e2];exact(hmv _ h1 h2).2
 have hLD:∀m,m∈w.d.l→(m∈p0.Ij∨m∈p0.Ik∨m=p0.flags∨m=p0.target)∧II.in_ m w.code:=fun m hm=>⟨Or.inl (by rw[f2];exact hm),lk.d m hm⟩
 have hLR:∀m,m∈w.r.l→(m∈p0.Ij∨m∈p0.Ik∨m=p0.flags∨m=p0.target)∧II.in_ m w.code:=fun m hm=>⟨Or.inr (Or.inl (by rw[f3];exact hm)),lk.r m hm⟩
 have eD:fS M.words 4 (M.words.getD 2 0).toNat=s'.d:=by
  rw[c4.d.eq];have a1:=left.Jk;have a2:=left.lowD;have a3:=left.newD;rw[g1]at a1 a2 a3;rw[Jk]at a1 a3;refine vv (by rw[a1];simp) a2 (fun j hj=>?_);have hj:j<w.d.l.length:=by simpa using hj
  rw[a3 j hj,hoD];exact outsEq w.d.l hLD j hj
 have eR:fS M.words 20 (M.words.getD 3 0).toNat=s'.r:=by
  rw[c4.r.eq];have a1:=left.lenR;have a2:=left.lowR;have a3:=left.newR;rw[g2]at a1 a2 a3;rw[lenR]at a1 a3;refine vv (by rw[a1];simp) a2 (fun j hj=>?_);have hj:j<w.r.l.length:=by simpa using hj
  rw[a3 j hj,hoR];exact outsEq w.r.l hLR j hj
 have eS:mF M.words s=s':=by
  unfold mF;have hk:s'=_:=c7;rw[left.pc,left.flags,left.count,eF,ePc,eD,eR,g8];rw[hk]
 have hfit1:=left.fitD;have hfit2:=left.fitR;have hw2:=left.Jk;have hw3:=left.lenR;rw[eS];exact⟨c1,c2,c3,c7,by omega,by omega,by omega,by omega,by rw[left.flags,eF];omega⟩
abbrev HI.cells(i:HI):List Value:=[.int .i64 i.op,.int .i64 i.rd,.int .i64 i.ra,.int .i64 i.rb,.int .u32 i.imm]
abbrev hiv(i:HI):Value:= .agg i.cells.toArray
def eo(i:HI):HI×Bool:=
 bif i.op==0 then(⟨i.op,0,0,0,0⟩,true)else bif i.op==1 then(⟨i.op,i.rd,0,0,i.imm⟩,true)else bif i.op==2 then(⟨i.op,i.rd,i.ra,0,0⟩,true)else
 bif decide (3≤i.op)&&decide (i.op≤13)then(⟨i.op,i.rd,i.ra,i.rb,0⟩,true)else bif i.op==14 then(⟨i.op,i.rd,i.ra,0,i.imm⟩,true)else bif i.op==15 then(⟨i.op,0,i.ra,i.rb,i.imm⟩,true)else
 bif i.op==16||i.op==17 then(⟨i.op,0,i.ra,0,i.imm⟩,true)else bif i.op==18||i.op==19 then(⟨i.op,0,0,0,i.imm⟩,true)else(⟨i.op,0,0,0,0⟩,false)
structure HI.I0(i:HI):Prop where
 asked:eo i=(i,true)
 rd:0≤i.rd∧i.rd≤15
 ra:0≤i.ra∧i.ra≤15
 rb:0≤i.rb∧i.rb≤15
 imm:0≤i.imm∧i.imm≤4294967295
theorem HI.I0.op{i:HI}(h:i.I0):0≤i.op∧i.op≤19:=by
 have ha:=h.asked;unfold eo at ha;by_cases c0:i.op=0
 ·omega
 by_cases c1:i.op=1
 ·omega
 by_cases c2:i.op=2
 ·omega
 by_cases c3:3≤i.op∧i.op≤19
 ·omega
 rw[show(i.op==0)=false by simpa using c0,show(i.op==1)=false by simpa using c1,show(i.op==2)=false by simpa using c2,show(decide (3≤i.op)&&decide (i.op≤13))=false by(simp;omega),
  show(i.op==14)=false by(simp;omega),show(i.op==15)=false by(simp;omega),show(i.op==16)=false by(simp;omega),show(i.op==17)=false by(simp;omega),show(i.op==18)=false by(simp;omega),show(i.op==19)=false by(simp;omega)]at ha
 injection ha with _ h2
 cases h2
def pS(i:HI):List Int:=[i.op,i.rd,i.ra,i.rb,i.imm%256,i.imm/256%256,i.imm/65536%256,i.imm/16777216%256]
def cJ(l:List HI):List Int:=l.flatMap pS
theorem iU:∀l:List HI,(cJ l).length=8*l.length
 |[]=>rfl
 |i::l=>by
  have:=iU l;show(pS i++cJ l).length=_;rw[ae,this];show 8+_=8*(l.length+1);omega
theorem xW(l:List HI)(i:HI):cJ (l++[i])=cJ l++pS i:=by simp[cJ]
theorem or_up{a b k:Nat}(ha:a<2^k)(hab:b*2^k+a<4294967296)(hk:k≤24):bits .or .u32 (a:Int) (IntKind.u32.wrap ((b:Int)*2^(min (k:Int).toNat IntKind.u32.bits)))=((b*2^k+a:Nat):Int):=by
 have e1:min (k:Int).toNat IntKind.u32.bits=k:=by rw[aQ];show min k 32=k;omega
 rw[e1];have e2:IntKind.u32.wrap ((b:Int)*2^k)=((b*2^k:Nat):Int):=by
  rw[aE];have:((b:Int)*2^k)=((b*2^k:Nat):Int):=by simp
  rw[this];omega
 rw[e2,or32 (by omega) (by omega),Nat.or_comm,Nat.mul_comm b,←Nat.two_pow_add_eq_or_of_lt ha]
theorem Ge{m:Nat}(h:m<4294967296):bits .or .u32 (bits .or .u32 (bits .or .u32 ((m%256:Nat):Int) (IntKind.u32.wrap (((m/256%256:Nat):Int)*2^(min ((8:Nat):Int).toNat IntKind.u32.bits)))) (IntKind.u32.wrap (((m/65536%256:Nat):Int)*2^(min ((16:Nat):Int).toNat IntKind.u32.bits)))) (IntKind.u32.wrap (((m/16777216%256:Nat):Int)*2^(min ((24:Nat):Int).toNat IntKind.u32.bits)))=(m:Int):=by
 rw[or_up (k:=8) (by omega) (by omega) (by decide),or_up (k:=16) (by omega) (by omega) (by decide),or_up (k:=24) (by omega) (by omega) (by decide)];omega
theorem z15:(0:Int)≤0∧(0:Int)≤15:=by decide
theorem z32:(0:Int)≤0∧(0:Int)≤4294967295:=by decide
theorem iV{rd v:Int}(h:0≤rd∧rd≤15)(hv:0≤v∧v≤4294967295):HI.I0 ⟨1,rd,0,0,v⟩:=⟨rfl,h,z15,z15,hv⟩
theorem yZ{rd ra:Int}(h:0≤rd∧rd≤15)(h2:0≤ra∧ra≤15):HI.I0 ⟨2,rd,ra,0,0⟩:=⟨rfl,h,h2,z15,z32⟩
theorem fO{op rd ra rb:Int}(ho:3≤op∧op≤13)(h:0≤rd∧rd≤15)(h2:0≤ra∧ra≤15)(h3:0≤rb∧rb≤15):HI.I0 ⟨op,rd,ra,rb,0⟩:=by
 refine⟨?_,h,h2,h3,z32⟩;unfold eo;dsimp only;rw[show(op==0)=false by(simp;omega),show(op==1)=false by(simp;omega),show(op==2)=false by(simp;omega),show(decide (3≤op)&&decide (op≤13))=true by(simp;omega)]
 rfl
theorem ru{rd ra v:Int}(h:0≤rd∧rd≤15)(h2:0≤ra∧ra≤15)(hv:0≤v∧v≤4294967295):HI.I0 ⟨14,rd,ra,0,v⟩:=⟨rfl,h,h2,z15,hv⟩
theorem oZ{ra rb v:Int}(h:0≤ra∧ra≤15)(h2:0≤rb∧rb≤15)(hv:0≤v∧v≤4294967295):HI.I0 ⟨15,0,ra,rb,v⟩:=⟨rfl,z15,h,h2,hv⟩
theorem xY{op ra v:Int}(ho:op=16∨op=17)(h:0≤ra∧ra≤15)(hv:0≤v∧v≤4294967295):HI.I0 ⟨op,0,ra,0,v⟩:=by
 rcases ho with rfl|rfl<;>exact⟨rfl,z15,h,z15,hv⟩
theorem wz{v:Int}(hv:0≤v∧v≤4294967295):HI.I0 ⟨19,0,0,0,v⟩:=⟨rfl,z15,z15,z15,hv⟩
def gc(l:List HI):Prop:=∀i,i∈l→i.I0
theorem di:gc []:=fun _ h=>by cases h
theorem cj{i:HI}{l:List HI}(h:i.I0)(k:gc l):gc (i::l):=fun j hj=>by
 rcases aL.1 hj with rfl|hj
 ·exact h
 exact k j hj
theorem dj{a b:List HI}(h:gc a)(k:gc b):gc (a++b):=fun j hj=>by
 rcases aV.1 hj with hj|hj
 ·exact h j hj
 exact k j hj
theorem Gg(op:Int):3≤j7 op∧j7 op≤13:=by
 unfold j7;cases op==16<;>cases op==18<;>cases op==19<;>cases op==20<;>cases op==21<;>cases op==22<;>cases op==23<;>decide
section
variable {pl:Pl} {N:Nat}
theorem Bf(x:Int):0≤IntKind.u32.wrap x∧IntKind.u32.wrap x≤4294967295:=by rw[aE];omega
theorem Dy{r:Int}(h:0≤r∧r≤15):gc (Ho r):=cj (iV (by decide) (by decide)) (cj (fO (by decide) h h (by decide)) di)
theorem wy{op rd a b:Int}(h:0≤rd∧rd≤15)(ha:0≤a∧a≤15)(hb:0≤b∧b≤15):gc (tJ op rd a b):=by
 unfold tJ;refine cj (fO (Gg op) h ha hb) ?_;cases uE op with
 |true=>exact di
 |false=>exact Dy h
theorem nZ{r up:Int}(h:0≤r∧r≤15)(hu:0≤up∧up≤4294967295):gc (r8 r up):=cj (iV (by decide) hu) (cj (fO (by decide) h h (by decide)) (cj (fO (by decide) (by decide) (by decide) h) di))
theorem pI{rd r:Int}(h:0≤rd∧rd≤15)(h2:0≤r∧r≤15):gc (gL rd r):=cj (iV (by decide) (by decide)) (cj (fO (by decide) h h2 (by decide)) di)
theorem nY:gc gv:=cj (fO (by decide) (by decide) (by decide) (by decide)) (dj (pI (by decide) (by decide)) (nZ (by decide) (by decide)))
theorem AN{op a b:Int}(ha:0≤a∧a≤15)(hb:0≤b∧b≤15):gc (kW op a b):=by
 unfold kW;refine dj (dj (wy (by decide) ha hb) (cj (fO (by decide) (by decide) (by decide) (by decide)) (dj (pI (by decide) (by decide)) (nZ (by decide) (by decide))))) ?_;cases op==16 with
 |true=>exact cj (fO (by decide) (by decide) (by decide) ha) (dj (nZ (by decide) (by decide)) (cj (fO (by decide) (by decide) ha (by decide)) (cj (fO (by decide) (by decide) hb (by decide)) nY)))
 |false=>
  cases op==17||op==25 with
  |true=>exact cj (fO (by decide) (by decide) ha hb) (dj (nZ (by decide) (by decide)) (cj (fO (by decide) (by decide) ha hb) (cj (fO (by decide) (by decide) ha (by decide)) nY)))
  |false=>exact di
theorem o3{n into:Int}(h:pl.has n)(hi:0≤into∧into≤15):0≤dT pl n into∧dT pl n into≤15:=by
 unfold dT;rcases h with⟨h1,h2⟩|⟨h1,h2,h3⟩
 ·rw[h1];have h0:0≤pl.r n:=by unfold Pl.inR at h1;simpa using h1
  exact⟨h0,by show pl.r n≤15;omega⟩
 rw[h1];exact hi
theorem jI{n into:Int}(hi:0≤into∧into≤15):gc (je pl n into):=by
 unfold je;cases pl.inR n with
 |true=>exact di
 |false=>exact cj (ru hi (by decide) (Bf _)) di
theorem AM{n r:Int}(hr:0≤r∧r≤15):gc (iQ pl n r):=by
 unfold iQ;cases pl.inR n with
 |true=>exact di
 |false=>exact cj (oZ (by decide) hr (Bf _)) di
theorem Dx{nd nr:Int}{n:Nat}{x:II}(hp:∀k:Nat,k<N→pl.has k)(hn:n<N)(hx:x.ok nd nr n):gc (oR nd nr pl n x):=by
 have hN:=hp n hn;have h9:=o3 (into:=9) hN (by decide);have hab:x.op=3∨x.op=4→(0≤dT pl x.a 7∧dT pl x.a 7≤15)∧(0≤dT pl x.b 8∧dT pl x.b 8≤15):=fun ho=>by
  obtain⟨⟨a1,a2⟩,b1,b2⟩:=hx.ab ho;have ea:((x.a.toNat:Nat):Int)=x.a:=by omega
  have eb:((x.b.toNat:Nat):Int)=x.b:=by omega
  have ha:=hp x.a.toNat (by omega);have hb:=hp x.b.toNat (by omega);rw[ea]at ha;rw[eb]at hb;exact⟨o3 ha (by decide),o3 hb (by decide)⟩
 unfold oR;refine dj ?_ (AM h9);obtain⟨op,dst,a,b,imm⟩:=x;have hop:=hx.op;have him:=hx.imm;dsimp only at hop him hab;rcases hop with rfl|⟨rfl, -⟩|⟨rfl, -⟩|⟨rfl, -⟩|⟨rfl, -⟩
 ·exact cj (iV h9 him) di
 ·exact cj (ru h9 (by decide) (Bf _)) di
 ·exact cj (ru h9 (by decide) (Bf _)) di
 ·exact dj (jI (by decide)) (dj (jI (by decide)) (wy h9 (hab (Or.inl rfl)).1 (hab (Or.inl rfl)).2))
 exact dj (jI (by decide)) (dj (jI (by decide)) (dj (AN (hab (Or.inr rfl)).1 (hab (Or.inr rfl)).2) (cj (yZ h9 (by decide)) di)))
theorem tp{nd nr:Int}(hp:∀k:Nat,k<N→pl.has k):∀(c:List II) (n:Nat),n+c.length≤N→(∀(i:Nat) (x:II),c[i]? =some x→x.ok nd nr (n+i))→gc (jq nd nr pl c n)
 |[],_,_,_=>di
 |x::c,n,hn,h=>by
  simp only[ai]at hn;refine dj (Dx hp (by omega) (by have:=h 0 x rfl;rwa[Nat.add_zero]at this)) (tp hp c (n+1) (by omega) (fun i y hy=>?_));have:=h (i+1) y (by simpa using hy);rwa[show n+(i+1)=n+1+i by omega]at this
theorem xX{n:Int}(hp:∀k:Nat,k<N→pl.has k)(h:0≤n∧n<N):pl.has n:=by
 have:=hp n.toNat (by omega);rwa[show((n.toNat:Nat):Int)=n by omega]at this
theorem wx{base f:Int}(hp:∀k:Nat,k<N→pl.has k)(hb:0≤base∧base≤15):∀(c:List Int) (k:Nat),(∀n,n∈c→0≤n∧n<N)→gc (sY pl base f c k)
 |[],_,_=>di
 |n::c,k,h=>dj (jI (by decide)) (cj (oZ hb (o3 (xX hp (h n (by simp))) (by decide)) (Bf _)) (wx hp hb c (k+1) (fun m hm=>h m (bA _ hm))))
theorem rq{base f word:Int}{out:List Int}(hp:∀k:Nat,k<N→pl.has k)(hb:0≤base∧base≤15)(hw:0≤word∧word≤15)(h:∀n,n∈out→0≤n∧n<N):gc (gV pl base f word out):=
 dj (wx hp hb out 0 h) (cj (iV (by decide) (Bf _)) (cj (fO (by decide) (by decide) (by decide) hb) (cj (oZ (by decide) (by decide) (by omega)) di)))
theorem oY{e base word Ic IG:Int}(he:0≤e∧e≤4294967295)(hb:0≤base∧base≤15)(hw:0≤word∧word≤15):gc (mQ e base word Ic IG):=
 cj (ru hb (by decide) (by omega)) (cj (iV (by decide) (Bf _)) (cj (fO (by decide) (by decide) hb (by decide)) (cj (xY (Or.inr rfl) (by decide) he) (cj (iV (by decide) (Bf _)) (cj (fO (by decide) (by decide) (by decide) hb) (cj (xY (Or.inr rfl) (by decide) he) (cj (fO (by decide) hb hb (by decide)) di)))))))
theorem xT(op:Int):0≤fx op∧fx op≤4294967295:=by
 unfold fx;cases op==33<;>cases op==34<;>cases op==35<;>cases op==36<;>decide
theorem AO{p:Pg}{T:List Int}(ok:PgOk p T)(hN:N=p.code.length)(hp:∀k:Nat,k<N→pl.has k):gc (gm p pl):=by
 subst hN;have hfl:=ok.flags;have htg:=ok.target;have h15:HI.I0 ⟨1,15,0,0,0⟩:=iV (by decide) (by decide);refine dj ?_ (cj (wz (by decide)) di);unfold fp;obtain⟨e,he⟩:=Zgn (IntKind.u32.wrap ((fp p pl 0).length:Nat));have hee:=Bf ((fp p pl 0).length:Nat);unfold fp at he hee;rw[he]at hee⊢;cases p.IM with
 |false=>exact cj h15 di
 |true=>
  cases p.IX with
  |false=>exact cj h15 (oY hee (by decide) (by decide))
  |true=>
   have hflags:gc (gu p pl):=by
    unfold gu;by_cases h0:0≤p.flags
    ·rw[aB h0];exact cj (iV (by decide) (by decide)) (dj (jI (by decide)) (cj (fO (by decide) (by decide) (by decide) (o3 (xX hp ⟨h0,(hfl h0).1⟩) (by decide))) (cj (oZ (by decide) (by decide) (by decide)) di)))
    rw[aD h0];exact di
   have htarget:gc (iN p pl):=by
    unfold iN;by_cases h0:0≤p.target
    ·rw[aB h0];exact dj (jI (by decide)) (cj (yZ (by decide) (o3 (xX hp ⟨h0,(htg h0).1⟩) (by decide))) di)
    rw[aD h0];exact di
   have hbranch:∀q,gc (gf p q):=fun q=>by
    unfold gf;cases p.branch !=0 with
    |false=>exact di
    |true=>exact cj (ru (by decide) (by decide) (by decide)) (cj (iV (by decide) (xT _)) (cj (fO (by decide) (by decide) (by decide) (by decide)) (cj (xY (by cases gO p.branch;exact Or.inr rfl;exact Or.inl rfl) (by decide) (Bf _)) (cj (iV (by decide) ok.taken) di))))
   show gc (pR p e++(iq p pl++qi p pl (17+(iq p pl).length)));refine dj (cj h15 (dj (oY hee (by decide) (by decide)) (oY hee (by decide) (by decide)))) (dj (dj (tp hp p.code 0 (by omega) (fun i x hx=>by rw[bl];exact ok.code i x hx)) (dj (rq hp (by decide) (by decide) (fun n hn=>⟨(ok.Ij n hn).1,(ok.Ij n hn).2.1⟩)) (rq hp (by decide) (by decide) (fun n hn=>⟨(ok.Ik n hn).1,(ok.Ik n hn).2.1⟩)))) ?_);unfold qi;exact dj hflags (cj (iV (by decide) ok.next) (dj (hbranch _) (dj htarget (cj (oZ (by decide) (by decide) (by decide)) (cj (iV (by decide) (Bf _)) (cj (oZ (by decide) (by decide) (by decide)) (cj (wz (by decide)) di)))))))
end
end Go.Ink
