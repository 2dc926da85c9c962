/- Lemmas. -/
import Derived.Test.YtepfimeihngjoaaGreatDoorYak
import Derived.Test.YtepfimeihngjoaaGreatDoorYal
set_option linter.all false
set_option maxRecDepth 100000
set_option maxHeartbeats 4000000
namespace Go.Ink
open List renaming length→J, replicate→R9
open IntKind renaming wrap→V9
open Go.RowKit
structure Left(p:Pg)(V:Li)(s:St)(W:Li):Prop where
 SE:p.SE<=J s.d
 Tc:(J s.d:Int)+p.Tc<=16
 SG:p.SG<=J s.r
 Te:(J s.r:Int)+p.Te<=16
 pc:W.getD 0 0=p.TG V (p.TT V s.flags)
 flags:W.getD 1 0=p.TT V s.flags
 T1:W.getD 2 0=((J s.d - p.SE.toNat+J p.SP:Nat):Int)
 lenR:W.getD 3 0=((J s.r - p.SG.toNat+J p.SQ:Nat):Int)
 fitD:J s.d - p.SE.toNat+J p.SP<=16
 fitR:J s.r - p.SG.toNat+J p.SQ<=16
 lowD:∀i,i<J s.d - p.SE.toNat->W.getD (4+i) 0=s.d.getD i 0
 newD:∀i,i<J p.SP->W.getD (4+(J s.d - p.SE.toNat)+i) 0=V.getD (p.SP.getD i 0).toNat 0
 lowR:∀i,i<J s.r - p.SG.toNat->W.getD (20+i) 0=s.r.getD i 0
 newR:∀i,i<J p.SQ->W.getD (20+(J s.r - p.SG.toNat)+i) 0=V.getD (p.SQ.getD i 0).toNat 0
 count:W.getD 36 0=p.count
variable{T:Li}{pl:Pl}
variable{n:Int}
variable{i:Nat}
variable{j:Nat}
theorem EF{T:Li}{Tb:Int}{N:Nat}(hT:∀i,i<N->(i:Int)<=T.getD i 0):∀n,n<=N->SInv T Tb N n (jx T Tb N n)
 |0,_=>sinv0 T Tb N
 |n+1,h=>JD hT (EF hT n O) O
theorem Kb{N:Nat}(hT:∀i,i<N->(i:Int)<=T.getD i 0)(hN:N<=64):Nm (jx T 7 N N) T N:=by
 have h:=EF (Tb:=7) hT N (aL _);obtain⟨pl,hpl⟩:=Uk (jx T 7 N N);rw[hpl]at h|-;have e:∀n:Nat,pl.r n=pl.reg.getD n 0/\pl.s n=pl.slot.getD n 0:=λn=>by simp only[Pl.r,Pl.s,aP,and_self]
 have hin:∀n:Nat,pl.inR n=decide (0<=pl.reg.getD n 0):=λn=>by unfold Pl.inR;rw[(e n).1]
 refine⟨λn hn=>?_,λi j hij hj h1 h2 he=>?_,λi j hij hj h1 h2 he=>?_⟩
 .unfold Pl.has;rw[hin,(e n).1,(e n).2];rcases h.had n hn with⟨q1,q2, -⟩|⟨q1,q2,q3⟩
  .exact Or.inl ⟨ak q1,q2⟩
  exact Or.inr ⟨ao O,q2,by omega⟩
 .rw[hin]at h1;rw[(e i).1,(e j).1]at he;exact h.reg i j hij hj (by simpa using h1) he
 rw[hin]at h1;rw[(e i).2,(e j).2]at he;refine h.slot i j hij hj ?_ he;rcases h.had i (by omega)with⟨q1, -⟩|⟨-,q, -⟩
 .rw[ak q1]at h1;cases h1
 exact q
def iM(U:List Bool)(l:Li):List Bool:=l.foldl (λU n=>bif n != -1 then U.set n.toNat true else U) U
def lr(code:List II):Nat->List Bool->List Bool
 |0,U=>U
 |k+1,U=>lr code k (bif U.getD k false&&lZ (code.getD k II.zero)then iM U [(code.getD k II.zero).a,(code.getD k II.zero).b]else U)
def He(p:Pg):List Bool:=iM (iM (iM (R9 (J p.code) false) p.SP) p.SQ) [p.flags,p.target]
def gj(p:Pg):List Bool:=lr p.code (J p.code) (He p)
def pj(x:II)(pl:Li)(n:Nat):II:=bif lZ x then⟨x.op,n,pl.getD x.a.toNat 0,pl.getD x.b.toNat 0,x.imm⟩else⟨x.op,n,x.a,x.b,x.imm⟩
def nJ(U:List Bool):List II->Nat->List Int->List II->List Int×List II
 |[],_,pl,c=>(pl,c)
 |x::suf,i,pl,c=>bif U.getD i false then nJ U suf (i+1) (pl.set i (J c:Int)) (c++[pj x (pl.set i (J c:Int)) (J c)])else nJ U suf (i+1) pl c
def dT(pl:Li)(l:Li):List Int:=l.map λn=>pl.getD n.toNat 0
def eP(p:Pg):List Int×List II:=nJ (gj p) p.code 0 (R9 (J p.code) 0) []
def cC(p:Pg):Pg:=⟨(eP p).2,p.SE,p.SG,p.Tc,p.Te,dT (eP p).1 p.SP,dT (eP p).1 p.SQ,hI (eP p).1 p.flags,p.next,hI (eP p).1 p.target,p.branch,p.taken,p.count,(eP p).2.length⟩
def κ(code:List II):Prop:=∀(i:Nat) (x:II),code[i]? =some x->lZ x=true->(0<=x.a/\x.a<i)/\(0<=x.b/\x.b<i)
theorem Fw{U:List Bool}(hj:j<J U):(U.set j true).getD j false=true:=by grind
theorem getB_ne{U:List Bool}{b:Bool}(h:i≠j):(U.set i b).getD j false=U.getD j false:=by grind
theorem gr:∀(l:Li) (U:List Bool),J (iM U l)=J U
 |[],_=>rfl
 |n::l,U=>by
  show(iM (bif n != -1 then U.set n.toNat true else U) l).length=_;rw[gr l]
  grind
theorem oB:∀(l:Li) (U:List Bool) (i:Nat),us U i->us (iM U l) i
 :=by intro y1;induction y1<;>grind [iM,Fw,getB_ne]
theorem tw:∀(l:Li) (U:List Bool) (n:Int),n∈l->0<=n->n.toNat<J U->us (iM U l) n.toNat
 :=by intro y1;induction y1<;>grind [iM,oB,Fw]
theorem wN:∀(l:Li) (U:List Bool) (i:Nat),us (iM U l) i->us U i\/∃n,n∈l/\n≠ -1/\n.toNat=i
 |[],_,_,h=>Or.inl h
 |m::l,U,i,h=>by
  have h:us (iM (bif m != -1 then U.set m.toNat true else U) l) i:=h;rcases wN l _ i h with h|⟨n,h1,h2⟩
  .grind
  grind
theorem vz(code:List II):∀(k:Nat) (U:List Bool) (i:Nat),us U i->us (lr code k U) i
 :=by intro y1;induction y1<;>grind [lr,lZ,II.zero,oB]
variable{code:List II}
theorem vA{code:List II}(hw:κ code):∀(k:Nat),k<=J code->∀(U:List Bool) (i:Nat),k<=i->us (lr code k U) i->us U i
 |0,_,_,_,_,h=>h
 |k+1,hk,U,i,hi,h=>by
  have h:us (lr code k (bif U.getD k false&&lZ (code.getD k II.zero)then iM U [(code.getD k II.zero).a,(code.getD k II.zero).b]else U)) i:=h;have h1:=vA hw k O _ i O h;cases hc:U.getD k false&&lZ (code.getD k II.zero)with
  |false=>grind
  |true=>
   rw[hc,ae]at h1;obtain⟨ha,hb⟩:=hw k _ (BI O) Do
   grind [wN]
theorem qz{code:List II}(hw:κ code):∀(k:Nat),k<=J code->∀(U:List Bool),J U=J code->∀(i:Nat),i<k->us (lr code k U) i->lZ (code.getD i II.zero)=true->us (lr code k U) (code.getD i II.zero).a.toNat/\us (lr code k U) (code.getD i II.zero).b.toNat
 |0,_,_,_,i,hi,_,_=>absurd hi O
 |k+1,hk,U,hU,i,hi,h,hab=>by
  obtain⟨U',hU'⟩:∃U',(bif U.getD k false&&lZ (code.getD k II.zero)then iM U [(code.getD k II.zero).a,(code.getD k II.zero).b]else U)=U':=⟨_,I⟩;have e:lr code (k+1) U=lr code k U':=by rw[<-hU'];rfl
  have hl:J U'=J code:=by
   rw[<-hU',<-hU];cases U.getD k false&&lZ (code.getD k II.zero)with
   |true=>exact gr _ _
   |false=>rfl
  rw[e]at h|-;by_cases hik:i=k
  .subst hik;have h1:=vA hw i O U' i (aL _) h;obtain⟨ha,hb⟩:=hw i _ (BI O) hab
   grind [lZ,II.zero,vz,tw]
  exact qz hw k O U' hl i O h hab
section
variable{D R:Li}
structure FInv(U:List Bool)(code:List II)(i:Nat)(pl:Li)(c:List II)(D R:Li):Prop where
 len:J pl=J code
 val:∀n,n<i->us U n->II.in_ (pl.getD n 0) c/\eB D R c (pl.getD n 0)=eB D R code n
def WfO(code:List II):Prop:=∀(i:Nat) (x:II),code[i]? =some x->(x.op=0\/x.op=1\/x.op=2)\/lZ x=true
theorem wo{V V':Li}{x:II}(h:x.op=0\/x.op=1\/x.op=2)(y:II)(h1:y.op=x.op)(h2:y.imm=x.imm):lw D R V y=lw D R V' x:=by
 obtain⟨op,dst,a,b,imm⟩:=x;obtain⟨op2,dst2,a2,b2,imm2⟩:=y;dsimp only at h h1 h2;subst h1 h2;rcases h with rfl|rfl|rfl<;>rfl
theorem zA{V V':Li}{x y:II}(h1:y.op=x.op)(h2:y.imm=x.imm)(hx:lZ x=true)(ha:V.getD y.a.toNat 0=V'.getD x.a.toNat 0)(hb:V.getD y.b.toNat 0=V'.getD x.b.toNat 0):lw D R V y=lw D R V' x:=by
 obtain⟨op,dst,a,b,imm⟩:=x;obtain⟨op2,dst2,a2,b2,imm2⟩:=y;dsimp only at h1 h2 ha hb;subst h1 h2;unfold lZ at hx;simp only[Bool.or_eq_true,beq_iff_eq]at hx;rcases hx with rfl|rfl
 .show(gP imm2 (V.getD a2.toNat 0) (V.getD b2.toNat 0)).1=(gP imm2 (V'.getD a.toNat 0) (V'.getD b.toNat 0)).1;rw[ha,hb]
 show(gP imm2 (V.getD a2.toNat 0) (V.getD b2.toNat 0)).2.1=(gP imm2 (V'.getD a.toNat 0) (V'.getD b.toNat 0)).2.1;rw[ha,hb]
theorem Cl{c:List II}{pl:Li}{x:II}{n:Nat}(ho:(x.op=0\/x.op=1\/x.op=2)\/lZ x=true)(ha:lZ x=true->eB D R c (pl.getD x.a.toNat 0)=eB D R code x.a/\eB D R c (pl.getD x.b.toNat 0)=eB D R code x.b):
  lw D R (Th D R c) (pj x pl n)=lw D R (Th D R code) x:=by
 rcases ho with ho|hx
 .grind [lZ,pj,wo]
 have e:pj x pl n=⟨x.op,n,pl.getD x.a.toNat 0,pl.getD x.b.toNat 0,x.imm⟩:=by unfold pj;rw[hx];rfl
 obtain⟨h1,h2⟩:=ha hx;rw[e];exact zA I I hx h1 h2
theorem Gn(hw:κ code)(ho:WfO code){i:Nat}{x:II}(hx:code[i]? =some x):eB D R code i=lw D R (Th D R code) x:=by
 obtain⟨hi,hxe⟩:=ap.1 hx;have hsp:code=(code.take i++[x])++code.drop (i+1):=by rw[<-hxe,aq,List.singleton_append,<-List.drop_eq_getElem_cons hi,List.take_append_drop]
 have hl:J (code.take i)=i:=by rw[aU];omega
 have e1:eB D R code i=eB D R (code.take i++[x]) i:=by
  conv=>lhs;rw[hsp]
  exact g9 ⟨by omega,by grind⟩
 have e2:eB D R (code.take i++[x]) i=lw D R (Th D R (code.take i)) x:=by
  have:=kv (D:=D) (R:=R) (code.take i) x;rw[hl]at this;exact this
 rw[e1,e2];rcases ho i x hx with h|h
 .grind [wo]
 obtain⟨⟨a1,a2⟩,b1,b2⟩:=hw i x hx h;have hsp2:code=code.take i++code.drop i:=(List.take_append_drop i code).symm;have ea:eB D R code x.a=eB D R (code.take i) x.a:=by
  conv=>lhs;rw[hsp2]
  exact g9 ⟨a1,by omega⟩
 have eb:eB D R code x.b=eB D R (code.take i) x.b:=by
  conv=>lhs;rw[hsp2]
  exact g9 ⟨b1,by omega⟩
 exact zA I I h ea.symm eb.symm
theorem LF{U:List Bool}{code:List II}(hw:κ code)(ho:WfO code)(hcl:∀(i:Nat) (x:II),code[i]? =some x->us U i->lZ x=true->us U x.a.toNat/\us U x.b.toNat):∀(suf:List II) (i:Nat) (pl:Li) (c:List II),code.drop i=suf->i<=J code->
  FInv U code i pl c D R->FInv U code (J code) (nJ U suf i pl c).1 (nJ U suf i pl c).2 D R
 |[],i,pl,c,hs,hi,h=>by
  have:J code=i:=by
   exact YC
  rw[this];exact h
 |x::suf,i,pl,c,hs,hi,h=>by
  have hil:i<J code:=by
   exact YC
  have hx:code[i]? =some x:=by rw[List.drop_eq_getElem_cons hil]at hs;injection hs with h1 h2;rw[aj hil,h1]
  have hs':code.drop (i+1)=suf:=by rw[List.drop_eq_getElem_cons hil]at hs;injection hs
  cases hu:U.getD i false with
  |false=>
   have e:nJ U (x::suf) i pl c=nJ U suf (i+1) pl c:=by show(bif U.getD i false then _ else _)=_;rw[hu];rfl
   rw[e];refine LF hw ho hcl suf (i+1) pl c hs' O ⟨h.len,λn hn hun=>?_⟩;by_cases en:n=i
   .grind
   exact h.val n O hun
  |true=>
   have e:nJ U (x::suf) i pl c=nJ U suf (i+1) (pl.set i (J c:Int)) (c++[pj x (pl.set i (J c:Int)) (J c)]):=by show(bif U.getD i false then _ else _)=_;rw[hu];rfl
   rw[e];refine LF hw ho hcl suf (i+1) _ _ hs' O ⟨by simp[h.len],λn hn hun=>?_⟩;have hlen:=h.len;by_cases en:n=i
   .subst en;rw[cY O];refine⟨oW _ _,?_⟩;rw[kv,Gn hw ho hx];refine Cl (ho n x hx) (λhab=>?_);obtain⟨⟨a1,a2⟩,b1,b2⟩:=hw n x hx hab;obtain⟨ua,ub⟩:=hcl n x hx hu hab;have ea:((x.a.toNat:Nat):Int)=x.a:=by omega
    have eb:((x.b.toNat:Nat):Int)=x.b:=by omega
    have ha:=(h.val x.a.toNat O ua).2;have hb:=(h.val x.b.toNat O ub).2
    grind
   obtain⟨h1,h2⟩:=h.val n O hun
   grind [cJ,sh,g9]
structure Raw(p:Pg):Prop where
 wf:κ p.code
 ops:WfO p.code
 SP:∀n,n∈p.SP->II.in_ n p.code
 SQ:∀n,n∈p.SQ->II.in_ n p.code
 flags:p.flags= -1\/II.in_ p.flags p.code
 target:p.target= -1\/II.in_ p.target p.code
theorem Jv{p:Pg}(h:Raw p){n:Int}(hn:n∈p.SP\/n∈p.SQ\/n=p.flags\/n=p.target)(h0:II.in_ n p.code):
  II.in_ ((eP p).1.getD n.toNat 0) (eP p).2/\eB D R (eP p).2 ((eP p).1.getD n.toNat 0)=eB D R p.code n:=by
 have hl0:J (He p)=J p.code:=by unfold He;rw[gr,gr,gr,aB]
 have hcl:∀(i:Nat) (x:II),p.code[i]? =some x->us (gj p) i->lZ x=true->us (gj p) x.a.toNat/\us (gj p) x.b.toNat:=λi x hx hu hab=>by
  have hi:i<J p.code:=(ap.1 hx).1;have e:p.code.getD i II.zero=x:=by rw[aM,hx];rfl
  have:=qz h.wf (J p.code) (aL _) (He p) hl0 i hi hu Do;rw[e]at this;exact this
 have hF:=LF (D:=D) (R:=R) (U:=gj p) h.wf h.ops hcl p.code 0 (R9 (J p.code) 0) [] cE (ay _) ⟨by simp,λn hn=>absurd hn O⟩;obtain⟨i0,i1⟩:=h0;have en:((n.toNat:Nat):Int)=n:=by omega
 have hu:us (gj p) n.toNat:=by
  refine vz p.code (J p.code) _ _ ?_;unfold He;rcases hn with hn|hn|hn
  .grind [oB,tw]
  .grind [oB,tw,gr]
  grind [tw,gr]
 have:=hF.val n.toNat O hu;rw[en]at this;exact this
end
structure mX(w:Lw):Prop where
 d:∀n,n∈w.d.l->II.in_ n w.code
 r:∀n,n∈w.r.l->II.in_ n w.code
 wf:κ w.code
 ops:WfO w.code
 flags:w.flags= -1\/II.in_ w.flags w.code
 target:w.target= -1\/II.in_ w.target w.code
 imm:XR w.code
variable{c:List II}{x:II}
theorem XR.snoc(h:XR c)(hx:0<=x.imm/\x.imm<=4294967295):XR (c++[x]):=λy hy=>by
 rcases aK.1 hy with h1|h1
 .exact h y h1
 grind
theorem κ.snoc(h:κ c)(hx:lZ x=true->(0<=x.a/\x.a<J c)/\(0<=x.b/\x.b<J c)):κ (c++[x]):=λi y hy hab=>by
 by_cases hi:i<J c
 .rw[List.getElem?_append_left hi]at hy;exact h i y hy hab
 grind
theorem WfO.snoc(h:WfO c)(hx:(x.op=0\/x.op=1\/x.op=2)\/lZ x=true):WfO (c++[x]):=λi y hy=>by
 by_cases hi:i<J c
 .rw[List.getElem?_append_left hi]at hy;exact h i y hy
 grind
theorem J4{k:Int}(hk:k=1\/k=2){c:List II}{s:Sd}(h:∀n,n∈s.l->II.in_ n c)(hw:κ c)(ho:WfO c)(hm_:XR c):
  II.in_ (fu k c s).1 (fu k c s).2.1/\(∀n,n∈(fu k c s).2.2.l->II.in_ n (fu k c s).2.1)/\κ (fu k c s).2.1/\WfO (fu k c s).2.1/\XR (fu k c s).2.1/\∃e,(fu k c s).2.1=c++e:=by
 unfold fu;cases hl:s.l.getLast? with
 |some n=>
  obtain⟨m,hm⟩:∃m,s.l=m++[n]:=List.getLast?_eq_some_iff.1 hl
  simp_all
 |none=>
  refine⟨oW _ _,λj hj=>(by cases hj),hw.snoc (λhab=>?_),ho.snoc (Or.inl ?_),hm_.snoc (by grind [IntKind.wrap_u32]),_,rfl⟩
  .rcases hk with rfl|rfl<;>cases hab
  grind
theorem mX.SH{w:Lw}(h:mX w):mX w.SH.2/\II.in_ w.SH.1 w.SH.2.code/\∃e,w.SH.2.code=w.code++e:=by
 obtain⟨h1,h2,h3,h4,h6,h5⟩:=J4 (k:=1) (Or.inl I) h.d h.wf h.ops h.imm;exact⟨⟨h2,λn hn=>Hq (h.r n hn) h5,h3,h4,G4 h.flags h5,G4 h.target h5,h6⟩,h1,h5⟩
theorem mX.Ti{w:Lw}(h:mX w):mX w.Ti.2/\II.in_ w.Ti.1 w.Ti.2.code/\∃e,w.Ti.2.code=w.code++e:=by
 obtain⟨h1,h2,h3,h4,h6,h5⟩:=J4 (k:=2) (Or.inr I) h.r h.wf h.ops h.imm;exact⟨⟨λn hn=>Hq (h.d n hn) h5,h2,h3,h4,G4 h.flags h5,G4 h.target h5,h6⟩,h1,h5⟩
theorem mX.pop2{w:Lw}(h:mX w):mX w.SH.2.SH.2/\II.in_ w.SH.1 w.SH.2.SH.2.code/\II.in_ w.SH.2.SH.1 w.SH.2.SH.2.code:=by
 obtain⟨h1,h2, -⟩:=h.SH;obtain⟨k1,k2,k3⟩:=h1.SH
 grind [Hq]
theorem mX.Tt{w:Lw}(h:mX w)(l:Li)(hl:∀n,n∈l->II.in_ n w.code):mX (w.Tt l):=⟨λn hn=>by rcases aK.1 hn with q|q;exact h.d n q;exact hl n q,h.r,h.wf,h.ops,h.flags,h.target,h.imm⟩
theorem mX.TX{w:Lw}(h:mX w)(l:Li)(hl:∀n,n∈l->II.in_ n w.code):mX (w.TX l):=⟨h.d,λn hn=>by rcases aK.1 hn with q|q;exact h.r n q;exact hl n q,h.wf,h.ops,h.flags,h.target,h.imm⟩
theorem mX.add{w:Lw}(h:mX w)(op a b imm:Int)(him:0<=imm/\imm<=4294967295)(ho:op=0\/((op=3\/op=4)/\II.in_ a w.code/\II.in_ b w.code)):mX (w.add op a b imm)/\II.in_ w.here (w.add op a b imm).code:=by
 have he:∃e,(w.add op a b imm).code=w.code++e:=⟨_,I⟩;refine⟨⟨λn hn=>Hq (h.d n hn) he,λn hn=>Hq (h.r n hn) he,h.wf.snoc (λhab=>?_),h.ops.snoc ?_,G4 h.flags he,G4 h.target he,h.imm.snoc him⟩,oW _ _⟩
 .rcases ho with rfl|⟨-,⟨a1,a2⟩,b1,b2⟩
  .cases hab
  grind
 rcases ho with rfl|⟨rfl|rfl, -⟩
 .grind
 .exact Or.inr I
 exact Or.inr I
theorem mX.SN{w:Lw}(h:mX w):mX w.SN:=⟨h.d,h.r,h.wf,h.ops,h.flags,h.target,h.imm⟩
theorem mX.wfl{w:Lw}(h:mX w){x:Int}(hx:II.in_ x w.code):mX (w.wfl x):=⟨h.d,h.r,h.wf,h.ops,Or.inr hx,h.target,h.imm⟩
theorem mX.wtg{w:Lw}(h:mX w){x:Int}(hx:II.in_ x w.code):mX (w.wtg x):=⟨h.d,h.r,h.wf,h.ops,h.flags,Or.inr hx,h.imm⟩
theorem mX.wbr{w:Lw}(h:mX w)(x:Int):mX (w.wbr x):=⟨h.d,h.r,h.wf,h.ops,h.flags,h.target,h.imm⟩
def Lw.init:Lw:=⟨[],⟨[],0,0⟩,⟨[],0,0⟩, -1, -1,0⟩
def yj(nx:Int)(w:Lw)(i:Int×Int)(n:Nat):Pg:=
 ⟨w.code,w.d.SK,w.r.SK,w.d.high,w.r.high,w.d.l,w.r.l,w.flags,bif i.1==32||i.1==38 then V9 .u32 (nx+jC i.2)else nx,w.target,w.branch,bif i.1==32||i.1==38 then 0 else bif w.branch !=0 then V9 .u32 (nx+jC i.2)else 0,n,J w.code⟩
theorem uC:mX Lw.init:=⟨λ_ h=>(by cases h),λ_ h=>(by cases h),λ_ _ h=>(by cases h),λ_ _ h=>(by cases h),Or.inl rfl,Or.inl rfl,λ_ h=>(by cases h)⟩
theorem MA{b:Bool}{x y:Um}(hx:x.device=false)(hy:y.device=false):(bif b then x else y).device=false:=by grind
inductive IG:List (Int×Int)->St->St->Prop
 |nil (s:St):IG [] s s
 |cons {op nn:Int} {l:List (Int×Int)} {s s1 s2:St} (hp:dy op=true) (hr:s.right=true) (h:Xs s op nn=⟨s1,false,false,[]⟩) (hm:l≠[]->gg op=false/\s1.pc=dS s op) (k:IG l s1 s2):IG ((op,nn)::l) s s2
theorem L4{op:Int}(hp:dy op=true)(h:gg op=false):op<32:=by
 unfold gg at h;simp only[aY,Bool.and_eq_false_iff,aa]at h;rcases je hp with q|q|q|q<;>omega
end Go.Ink
namespace Go.Ink
open List renaming length→J, replicate→R9
open IntKind renaming wrap→V9
open Go.RowKit Go.Proofs.Tryz
def kD(SE SG:Int)(i:Nat)(x:II):Bool:=
 bif x.dst !=i then false else
 bif x.op==0 then x.a==0&&x.b==0 else
 bif x.op==1 then(x.a==0&&x.b==0)&&decide (x.imm<SE)else
 bif x.op==2 then(x.a==0&&x.b==0)&&decide (x.imm<SG)else
 bif x.op==3 then((sB x.a i&&sB x.b i)&&decide (16<=x.imm))&&decide (x.imm<=23)else
 bif x.op==4 then(sB x.a i&&sB x.b i)&&((decide (16<=x.imm)&&decide (x.imm<=23))||x.imm==25)else false
def jm(SE SG:Int):List II->Nat->Bool
 |[],_=>true
 |x::c,i=>kD SE SG i x&&jm SE SG c (i+1)
def Pg.Tu(p:Pg):Bool:=
 (!((p.flags != -1&& !sB p.flags (J p.code))||(p.target != -1&& !sB p.target (J p.code))))&&(p.branch==0||((decide (33<=p.branch)&&decide (p.branch<=37))&&p.target== -1))
def dR(p:Pg):Pl:=jx (ge p) 7 (J p.code) (J p.code)
theorem xp{SE SG:Int}:∀(c:List II) (i:Nat),jm SE SG c i=true->∀(j:Nat) (x:II),c[j]? =some x->kD SE SG (i+j) x=true
 :=by intro y1;induction y1<;>grind [kD,jm]
theorem ym(k:Int)(c:List II)(s:Sd):(fu k c s).2.1.length<=J c+1:=by
 grind [fu]
theorem LG(U:List Bool):∀(suf:List II) (i:Nat) (pl:Li) (c:List II),(nJ U suf i pl c).2.length<=J c+J suf
 :=by intro y1;induction y1<;>grind [nJ,pj]
theorem Bp(U:List Bool):∀(suf:List II) (i:Nat) (pl:Li) (c:List II),XR c->XR suf->XR (nJ U suf i pl c).2
 :=by intro y1;induction y1<;>grind [XR,nJ,pj,lZ]
def fM(W:Li)(from_ n:Nat):List Int:=(List.range n).map λk=>W.getD (from_+k) 0
def oO(W:Li)(s:St):St:=⟨W.getD 0 0,fM W 4 (W.getD 2 0).toNat,fM W 20 (W.getD 3 0).toNat,W.getD 1 0,s.Sy,s.SJ,s.ie,s.root,s.vec,s.epc,s.SB,s.addr,s.SO,s.eie,V9 .u64 (s.count+W.getD 36 0),s.halted⟩
variable{n:Int}
theorem zI{W D out:Li}{f k:Nat}(hn:n=((J D - k+J out:Nat):Int))(hlow:∀i,i<J D - k->W.getD (f+i) 0=D.getD i 0)(hnew:∀i,i<J out->W.getD (f+(J D - k)+i) 0=out.getD i 0):
  fM W f n.toNat=D.take (J D - k)++out:=by
 subst hn;rw[aP];have hl:J (D.take (J D - k))=J D - k:=by rw[aU];omega
 apply List.ext_getElem?
 grind [fM]
abbrev HI.cells(i:HI):List Value:=[.i i.op,.i i.rd,.i i.ra,.i i.rb,.w i.imm]
abbrev Xb(i:HI):Value:= .agg i.cells.toArray
def wV(i:HI):HI×Bool:=
 bif i.op==0 then(⟨i.op,0,0,0,0⟩,true)else bif i.op==1 then(⟨i.op,i.rd,0,0,i.imm⟩,true)else bif i.op==2 then(⟨i.op,i.rd,i.ra,0,0⟩,true)else
 bif decide (3<=i.op)&&decide (i.op<=13)then(⟨i.op,i.rd,i.ra,i.rb,0⟩,true)else bif i.op==14 then(⟨i.op,i.rd,i.ra,0,i.imm⟩,true)else bif i.op==15 then(⟨i.op,0,i.ra,i.rb,i.imm⟩,true)else
 bif i.op==16||i.op==17 then(⟨i.op,0,i.ra,0,i.imm⟩,true)else bif i.op==18||i.op==19 then(⟨i.op,0,0,0,i.imm⟩,true)else(⟨i.op,0,0,0,0⟩,false)
structure HI.TF(i:HI):Prop where
 asked:wV i=(i,true)
 rd:0<=i.rd/\i.rd<=15
 ra:0<=i.ra/\i.ra<=15
 rb:0<=i.rb/\i.rb<=15
 imm:0<=i.imm/\i.imm<=4294967295
theorem HI.TF.op{i:HI}(h:i.TF):0<=i.op/\i.op<=19:=by
 grind [h.asked,wV]
def sF(i:HI):List Int:=[i.op,i.rd,i.ra,i.rb,i.imm%256,i.imm/256%256,i.imm/65536%256,i.imm/16777216%256]
def cD(l:List HI):List Int:=l.flatMap sF
theorem jj:∀l:List HI,J (cD l)=8*J l
 |[]=>rfl
 |i::l=>by
  have:=jj l;show(sF i++cD l).length=_;rw[ar,this];show 8+_=8*(J l+1);omega
theorem DA(l:List HI)(i:HI):cD (l++[i])=cD l++sF i:=by simp[cD]
variable{rd v:Int}
theorem kK(h:0<=rd/\rd<=15)(hv:0<=v/\v<=4294967295):HI.TF ⟨1,rd,0,0,v⟩:=⟨I,h,π,π,hv⟩
variable{ra:Int}
theorem Fu(h:0<=rd/\rd<=15)(h2:0<=ra/\ra<=15):HI.TF ⟨2,rd,ra,0,0⟩:=⟨I,h,h2,π,z32⟩
theorem fJ{op rb:Int}(ho:3<=op/\op<=13)(h:0<=rd/\rd<=15)(h2:0<=ra/\ra<=15)(h3:0<=rb/\rb<=15):HI.TF ⟨op,rd,ra,rb,0⟩:=by
 refine⟨?_,h,h2,h3,z32⟩
 grind [wV]
theorem yK(h:0<=rd/\rd<=15)(h2:0<=ra/\ra<=15)(hv:0<=v/\v<=4294967295):HI.TF ⟨14,rd,ra,0,v⟩:=⟨I,h,h2,π,hv⟩
theorem u7{rb:Int}(h:0<=ra/\ra<=15)(h2:0<=rb/\rb<=15)(hv:0<=v/\v<=4294967295):HI.TF ⟨15,0,ra,rb,v⟩:=⟨I,π,h,h2,hv⟩
theorem DC{op:Int}(ho:op=16\/op=17)(h:0<=ra/\ra<=15)(hv:0<=v/\v<=4294967295):HI.TF ⟨op,0,ra,0,v⟩:=by
 rcases ho with rfl|rfl<;>exact⟨I,π,h,π,hv⟩
theorem Bm(hv:0<=v/\v<=4294967295):HI.TF ⟨19,0,0,0,v⟩:=⟨I,π,π,π,hv⟩
def fY(l:List HI):Prop:=∀i,i∈l->i.TF
theorem dJ:fY []:=λ_ h=>by cases h
theorem cn{i:HI}{l:List HI}(h:i.TF)(k:fY l):fY (i::l):=λj hj=>by
 rcases aI.1 hj with rfl|hj
 .exact h
 exact k j hj
theorem dV{a b:List HI}(h:fY a)(k:fY b):fY (a++b):=λj hj=>by
 rcases aK.1 hj with hj|hj
 .exact h j hj
 exact k j hj
theorem PB(op:Int):3<=sj op/\sj op<=13:=by
 grind [sj]
section
variable{pl:Pl}{N:Nat}
variable{r:Int}
theorem LB(h:0<=r/\r<=15):fY (RT r):=cn (kK An An) (cn (fJ An h h An) dJ)
theorem Bl{op a b:Int}(h:0<=rd/\rd<=15)(ha:0<=a/\a<=15)(hb:0<=b/\b<=15):fY (xm op rd a b):=by
 grind [xm,cn,fJ,PB,yu,dJ,LB]
theorem qo{up:Int}(h:0<=r/\r<=15)(hu:0<=up/\up<=4294967295):fY (vX r up):=cn (kK An hu) (cn (fJ An h h An) (cn (fJ An An An h) dJ))
theorem sk(h:0<=rd/\rd<=15)(h2:0<=r/\r<=15):fY (ip rd r):=cn (kK An An) (cn (fJ An h h2 An) dJ)
theorem qn:fY gU:=cn (fJ An An An An) (dV (sk An An) (qo An An))
theorem Hv{op a b:Int}(ha:0<=a/\a<=15)(hb:0<=b/\b<=15):fY (mF op a b):=by
 unfold mF;refine dV (dV (Bl An ha hb) (cn (fJ An An An An) (dV (sk An An) (qo An An)))) ?_;cases op==16 with
 |true=>exact cn (fJ An An An ha) (dV (qo An An) (cn (fJ An An ha An) (cn (fJ An An hb An) qn)))
 |false=>
  cases op==17||op==25 with
  |true=>exact cn (fJ An An ha hb) (dV (qo An An) (cn (fJ An An ha hb) (cn (fJ An An ha An) qn)))
  |false=>exact dJ
theorem qm{into:Int}(hi:0<=into/\into<=15):fY (j9 pl n into):=by
 grind [j9,dJ,cn,yK,I6]
theorem Hu(hr:0<=r/\r<=15):fY (jh pl n r):=by
 grind [jh,dJ,cn,u7,I6]
theorem Bk{base f:Int}(hp:∀k:Nat,k<N->pl.has k)(hb:0<=base/\base<=15):∀(c:Li) (k:Nat),(∀n,n∈c->0<=n/\n<N)->fY (yr pl base f c k)
 |[],_,_=>dJ
 |n::c,k,h=>dV (qm An) (cn (u7 hb (vc (DB hp (h n cE)) An) (I6 _)) (Bk hp hb c (k+1) (λm hm=>h m (bo _ hm))))
theorem u6{base f word:Int}{out:Li}(hp:∀k:Nat,k<N->pl.has k)(hb:0<=base/\base<=15)(hw:0<=word/\word<=15)(h:∀n,n∈out->0<=n/\n<N):fY (iX pl base f word out):=
 dV (Bk hp hb out 0 h) (cn (kK An (I6 _)) (cn (fJ An An An hb) (cn (u7 An An O) dJ)))
theorem rq{e base word SK S0:Int}(he:0<=e/\e<=4294967295)(hb:0<=base/\base<=15)(hw:0<=word/\word<=15):fY (p7 e base word SK S0):=
 cn (yK hb An O) (cn (kK An (I6 _)) (cn (fJ An An hb An) (cn (DC (Or.inr rfl) An he) (cn (kK An (I6 _)) (cn (fJ An An An hb) (cn (DC (Or.inr rfl) An he) (cn (fJ An hb hb An) dJ)))))))
theorem Dw(op:Int):0<=gS op/\gS op<=4294967295:=by
 grind [gS]
end
section
attribute [local irreducible] UL bM
theorem hi_eq(i:HI):φ prog 10000 370 (Xb i) (Xb i):=
 .struct rfl Zk (XX.cons An ir ir (.int rfl) (XX.cons An ir ir (.int rfl) (XX.cons An ir ir (.int rfl) (XX.cons An ir ir (.int rfl) (XX.cons An ir ir (.int rfl) XX.nil)))))
theorem Qq(i:HI)(w:World):CW prog 344 [Xb i] w (.tuple #[Xb (wV i).1,.bool (wV i).2]):=by
 refine UB func344 ntmps344 ?_;refine py ?_;refine ZO λb1=>?_;refine ZN λb2=>?_
 refine UG ?_;refine ZN λb4=>?_
 refine ZM ?_;refine fo ?_;refine ZW ?_ ?_<;>intro hc3
 .refine UA ?_;refine iz ?_;refine Nu ?_;refine⟨?_,I⟩;exact za
  try exact rfl
 refine V1 ?_ ?_<;>intro hc4
 .refine YY ?_;refine Ld 0 1 ?_;refine ZG 1 ?_;refine Ld 2 4 ?_;refine Ix ?_;refine Ld 4 1 ?_;refine cQ 5 Zk (DV ?_);refine Uw ?_;refine Ld 6 4 ?_;refine iW ?_;refine DV ?_;refine Uw ?_;refine Ip ?_;refine⟨?_,I⟩;exact za
  try exact rfl
 refine V1 ?_ ?_<;>intro hc6
 .refine YY ?_;refine Ld 0 1 ?_;refine ZG 1 ?_;refine Ld 2 2 ?_;refine Ix ?_;refine Ld 4 1 ?_;refine cQ 5 Zk (DV ?_);refine Uw ?_;refine Ld 6 2 ?_;refine iW ?_;refine DV ?_;refine Uw ?_;refine Ip ?_;refine⟨?_,I⟩;exact za
  try exact rfl
 refine iR ?_;refine ZW ?_ ?_<;>intro hc8
 .refine Y0 ?_;refine Ld 0 1 ?_;refine ZG 1 ?_;refine Ld 2 2 ?_;refine Ix ?_;refine Ld 4 3 ?_;refine YP ?_;refine Ld 6 1 ?_;refine iW ?_;refine DV ?_;refine Uw ?_;refine Ld 8 2 ?_;refine kO ?_;refine DV ?_;refine Uw ?_;refine Ld 10 3 ?_;refine cQ 11 Zk (DV ?_);refine Uw ?_;refine Ip ?_;refine⟨?_,I⟩;exact za
  try exact rfl
 refine V1 ?_ ?_<;>intro hc10
 .refine Y0 ?_;refine Ld 0 1 ?_;refine ZG 1 ?_;refine Ld 2 2 ?_;refine Ix ?_;refine Ld 4 4 ?_;refine YP ?_;refine Ld 6 1 ?_;refine iW ?_;refine DV ?_;refine Uw ?_;refine Ld 8 2 ?_;refine kO ?_;refine DV ?_;refine Uw ?_;refine Ld 10 4 ?_;refine cQ 11 Zk (DV ?_);refine Uw ?_;refine Ip ?_;refine⟨?_,I⟩;exact za
  try exact rfl
 refine V1 ?_ ?_<;>intro hc12
 .refine Y0 ?_;refine Ld 0 2 ?_;refine ZG 1 ?_;refine Ld 2 3 ?_;refine Ix ?_;refine Ld 4 4 ?_;refine YP ?_;refine Ld 6 2 ?_;refine iW ?_;refine DV ?_;refine Uw ?_;refine Ld 8 3 ?_;refine kO ?_;refine DV ?_;refine Uw ?_;refine Ld 10 4 ?_;refine cQ 11 Zk (DV ?_);refine Uw ?_;refine Ip ?_;refine⟨?_,I⟩;exact za
  try exact rfl
 refine iR ?_;refine ZW ?_ ?_<;>intro hc14
 .refine YY ?_;refine Ld 0 2 ?_;refine ZG 1 ?_;refine Ld 2 4 ?_;refine Ix ?_;refine Ld 4 2 ?_;refine cQ 5 Zk (DV ?_);refine Uw ?_;refine Ld 6 4 ?_;refine iW ?_;refine DV ?_;refine Uw ?_;refine Ip ?_;refine⟨?_,I⟩;exact za
  try exact rfl
 refine iR ?_;refine ZW ?_ ?_<;>intro hc16
 .refine Ut ?_;refine ZL ?_;refine UA ?_;refine iz ?_;refine Nu ?_;refine⟨?_,I⟩;exact za
  try exact rfl
 refine Us ?_;refine iS ?_;refine Nu ?_;refine⟨?_,I⟩;exact za
 try exact rfl
theorem Dy(n:Int)(w:World):CW prog 345 [.i n] w (.bool (decide (0<=n)&&decide (n<16))):=by
 refine UB func345 ntmps345 ?_;exact Wp
theorem Be(i:HI)(h:i.TF)(w:World):CW prog 312 [Xb i] w (.bool true):=by
 have HA:=Qq i;rw[h.asked]at HA;have hreg:∀n:Int,0<=n/\n<=15->(decide (0<=n)&&decide (n<16))=true:=λn hn=>by grind
 have e1:=hreg _ h.rd;have e2:=hreg _ h.ra;have e3:=hreg _ h.rb;have R1:=Dy i.rd;have R2:=Dy i.ra;have R3:=Dy i.rb;rw[e1]at R1;rw[e2]at R2;rw[e3]at R3;refine UB func312 ntmps312 ?_;refine py ?_;refine ZO λb1=>?_;refine UA ?_;refine UD (λw hi=>HA w) ?_;refine Us ?_;refine ZN λb3=>?_
 refine ZM ?_;refine Ux ?_;refine i6 (bP I I) Zh ir ir (Zv I) I (i6 (bP I I) Zh ir ir (Zv I) I (Wl I I (y_eqlT PG (hi_eq i) (cU I) (cU I)) ?_));refine Ut ?_;refine kt (bP I I) I (dQ I (λ_ _=>I) (λw hi=>R1 w)) I ?_;refine Vb ?_;refine Ut ?_;refine kt (bP I I) I (dQ I (λ_ _=>I) (λw hi=>R2 w)) I ?_;refine Vb ?_;refine Ut ?_;refine kt (bP I I) I (dQ I (λ_ _=>I) (λw hi=>R3 w)) I ?_;refine Vb ?_;exact vG
abbrev Wu(A:Oa)(c:Nat)(l:List HI):bH:=slv 370 5 A (J l) c (l.flatMap HI.cells)
theorem hi_snoc{A:Oa}{c:Nat}{l:List HI}{i:HI}:slv 370 5 A (J l+1) c (l.flatMap HI.cells++i.cells)=Wu A c (l++[i]):=by
 grind
theorem Fp(A:Oa)(c:Nat)(l:List HI)(hg:fY l)(hl:J l<=100000)(w:World)(h:UJ w 5 A (J l) c (l.flatMap HI.cells)):
  Uz prog 238 [.slice A (J l) c] w [] (λv cs=>∃A' c',v= .tuple #[.slice A' (J (cD l)) c',.i 0]/\cs=[sl .u8 5 A' (J (cD l)) c' (cD l)]):=by
 refine UB func238 ntmps238 ?_;refine jG ?_;refine dg 5 1 (UA ?_);refine UX (λq:Nat×Option Addr×Nat=>[(4,.slice q.2.1 (J (cD (l.take q.1))) q.2.2),(7,.slice A (J l) c),(8,.i (J l)),(9,.i (q.1:Int))]) (λq=>[sl .u8 5 q.2.1 (J (cD (l.take q.1))) q.2.2 (cD (l.take q.1))]) (λq=>q.1<=J l) (λq=>J l - q.1) (⟨0,none,0⟩) O ?_;rintro⟨k,A1,c1⟩ hk;dsimp only at hk|-;refine Ul ?_ ?_<;>intro hc3
 .simp only[ah]at hc3;obtain⟨ad,rfl⟩:=h.some_ O;obtain⟨i,hx⟩:∃i,l[k]? =some i:=⟨_,aj (show k<J l by omega)⟩;have hgi:=hg i (az hx);have htk:l.take (k+1)=l.take k++[i]:=(by rw[List.take_add_one,hx];rfl);have hlk:J (cD (l.take k))<=800000:=(by rw[jj,aU];omega);obtain⟨o1,o2⟩:=hgi.op;obtain⟨a1,a2⟩:=hgi.rd;obtain⟨p1,p2⟩:=hgi.ra;obtain⟨q1,q2⟩:=hgi.rb;obtain⟨m1,m2⟩:=hgi.imm;have HR:=Be i hgi;have hbe:sF i=[i.op,i.rd,i.ra,i.rb,i.imm%256,i.imm/256%256,i.imm/65536%256,i.imm/16777216%256]:=rfl;have hbs:cD (l.take (k+1))=cD (l.take k)++sF i:=(by rw[htk,DA]);have hcl:i.cells=[.i i.op,.i i.rd,.i i.ra,.i i.rb,.w i.imm]:=rfl;obtain⟨op,rd,ra,rb,im⟩:=i;dsimp only at o1 o2 a1 a2 p1 p2 q1 q2 m1 m2 hbe hcl;refine UA ?_;refine BR ?_;refine dW (cj (vs:=[.i op,.i rd,.i ra,.i rb,.w im]) ir ir ne) (fP h (λj v hj=>fK (f:=HI.cells) ir (i:=j) hx hj)) I ?_;refine ZN λb6=>?_
  refine iS ?_;refine UD (λw hi=>HR w) ?_;refine kU ?_;refine UA ?_;refine IA ?_;refine py ?_;refine IA ?_;refine py ?_;refine IA ?_;refine py ?_;refine IA ?_;refine py ?_;refine Zy (cA I I (Zv I) (show V9 .u8 im=im%256 from by rw[IntKind.wrap_u8])) ?_;refine py ?_;refine Zy (jH (Zv I) (Zv I) O (show _=im/256 from by show im.fdiv 256=_;grind)) ?_;refine Zy (cA I I (Zv I) (show V9 .u8 (im/256)=im/256%256 from by rw[IntKind.wrap_u8])) ?_;refine py ?_;refine Zy (jH (Zv I) (Zv I) O (show _=im/65536 from by show im.fdiv 65536=_;grind)) ?_;refine Zy (cA I I (Zv I) (show V9 .u8 (im/65536)=im/65536%256 from by rw[IntKind.wrap_u8])) ?_;refine py ?_;refine Zy (jH (Zv I) (Zv I) O (show _=im/16777216 from by show im.fdiv 16777216=_;grind)) ?_;refine Zy (cA I I (Zv I) (show V9 .u8 (im/16777216)=im/16777216%256 from by rw[IntKind.wrap_u8])) ?_;refine jP ?_;rintro _ _ ⟨b44,rfl,rfl⟩;refine gJ (cu (e:=5) (sz:=1) (bytes:=1) I I Za I I (λw hi=>hi.rd (Ur (slv 5 1 (sA b44) 8 8 (ints .u8 (sF ⟨op,rd,ra,rb,im⟩))))) cP gI O) I ?_;rintro _ _ ⟨A2,c2,rfl,rfl⟩;rw[bY,<-hbs,show(cD (l.take k)).length+8=J (cD (l.take (k+1))) from by simp_all];refine kb ?_;refine UN ((⟨k+1,A2,c2⟩:Nat×Option Addr×Nat)) O
 simp only[aa]at hc3;obtain rfl:k=J l:=by omega
 rw[List.take_length];refine YJ ?_;exact pF
theorem Dm{l:Li}{n:Nat}{x:Int}(h:x∈l.set n v):x∈l\/x=v:=by grind
theorem GU{op a b:Int}(ha:0<=a/\a<=18446744073709551615)(hb:0<=b/\b<=18446744073709551615):0<=kJ op a b/\kJ op a b<=18446744073709551615:=by
 have hw:∀z:Int,0<=V9 .u64 z/\V9 .u64 z<=18446744073709551615:=λz=>by rw[aS];omega
 have ht:∀c:Bool,0<=Va c/\Va c<=18446744073709551615:=λc=>by cases c<;>decide
 obtain⟨x,rfl⟩:∃x:Nat,a=x:=ai ha.1;obtain⟨y,rfl⟩:∃y:Nat,b=y:=ai hb.1;have hx:x<18446744073709551616:=by omega
 have hy:y<18446744073709551616:=by omega
 have h1:x&&&y<=x:=Nat.and_le_left;have h2:x|||y<2^64:=Nat.or_lt_two_pow hx hy
 have h3:x^^^y<2^64:=Nat.xor_lt_two_pow hx hy;have bp:∀{c:Bool} {u v:Int},(0<=u/\u<=18446744073709551615)->(0<=v/\v<=18446744073709551615)->0<=(bif c then u else v)/\(bif c then u else v)<=18446744073709551615:=λ{c u v} h k=>by grind
 have hsh:0<=(x:Int).fdiv (2^(min ((y:Int)).toNat IntKind.u64.bits))/\(x:Int).fdiv (2^(min ((y:Int)).toNat IntKind.u64.bits))<=18446744073709551615:=by
  rw[aP,Int.fdiv_eq_ediv_of_nonneg _ Do];have e:((x:Int)/2^(min y IntKind.u64.bits))=((x/2^(min y IntKind.u64.bits):Nat):Int):=by simp
  have h4:x/2^(min y IntKind.u64.bits)<=x:=Nat.div_le_self _ _;rw[e];obtain⟨q,hq⟩:=Uk (x/2^(min y IntKind.u64.bits));rw[hq]at h4|-;omega
 unfold kJ;exact bp ha (bp (hw _) (bp (hw _) (bp (by grind [MJ]) (bp (by grind [or64]) (bp (by grind [Gc]) (bp (hw _) (bp hsh (bp (hw _) (bp (bp ⟨by omega,by omega⟩ (hw _)) (bp (ht _) (ht _)))))))))))
section
variable{R:Li}{bw n cc:Nat}{Ac:Oa}{pc:Int}
theorem hm_setr(h:J R=16){k:Nat}(hk:k<16)(v:Int):(ji R bw Ac n cc pc).set k (.int .u64 v)=ji (R.set k v) bw Ac n cc pc:=by
 simp_all [ints]
theorem Lr(h:J R=16)(p:Int):(ji R bw Ac n cc pc).set 18 (.i p)=ji R bw Ac n cc p:=by
 simp_all [ints,du]
theorem hm_setc(h:J R=16)(A:Oa)(m c:Nat):(ji R bw Ac n cc pc).set 17 (.slice A m c)=ji R bw A m c pc:=by
 simp_all [ints,du]
end
theorem Ht(A:Oa)(c:Nat)(i:HI)(hg:i.TF)(w:World)(h:Rd w .u8 A 8 c (sF i)):
  CW prog 313 [.slice A 8 c] w (.tuple #[Xb i,.i 0]):=by
 obtain⟨ad,rfl⟩:=h.some_ An;have HR:=Be i hg;obtain⟨o1,o2⟩:=hg.op;obtain⟨a1,a2⟩:=hg.rd;obtain⟨p1,p2⟩:=hg.ra;obtain⟨q1,q2⟩:=hg.rb;obtain⟨m1,m2⟩:=hg.imm;obtain⟨op,rd,ra,rb,im⟩:=i;dsimp only at o1 o2 a1 a2 p1 p2 q1 q2 m1 m2;obtain⟨m,rfl⟩:∃m:Nat,im=m:=ai m1;have hib:=Py (show m<4294967296 by omega);have hbe:sF ⟨op,rd,ra,rb,(m:Int)⟩=[op,rd,ra,rb,((m%256:Nat):Int),((m/256%256:Nat):Int),((m/65536%256:Nat):Int),((m/16777216%256:Nat):Int)]:=rfl;rw[hbe]at h;refine UB func313 ntmps313 ?_;refine py ?_;refine ZN λb2=>?_;refine gX ?_;refine jn ?_;refine Us ?_;refine bN (UK [40]) Zk (ZE 0 ?_);refine UF 1 I (cW (j:=0) I ir (Zv I) (Zv I) Uq Uq) ?_;refine US 2 I (bL ir ne) (dG h (bX (j:=0) I)) ?_;refine UF 3 I (cA I I ne Zl) ?_;refine ZE 4 ?_;refine UF 5 I (cW (j:=1) I ir (Zv I) (Zv I) Uq Uq) ?_;refine US 6 I (bL ir ne) (dG h (bX (j:=1) I)) ?_;refine UF 7 I (cA I I ne Zl) ?_;refine ZE 8 ?_;refine UF 9 I (cW (j:=2) I ir (Zv I) (Zv I) Uq Uq) ?_;refine US 10 I (bL ir ne) (dG h (bX (j:=2) I)) ?_;refine UF 11 I (cA I I ne Zl) ?_;refine ZE 12 ?_;refine UF 13 I (cW (j:=3) I ir (Zv I) (Zv I) Uq Uq) ?_;refine US 14 I (bL ir ne) (dG h (bX (j:=3) I)) ?_;refine UF 15 I (cA I I ne Zl) ?_;refine ZE 16 ?_;refine UF 17 I (cW (j:=4) I ir (Zv I) (Zv I) Uq Uq) ?_;refine US 18 I (bL ir ne) (dG h (bX (j:=4) I)) ?_;refine UF 19 I (cA I I (Zv I) MT) ?_;refine ZE 20 ?_;refine UF 21 I (cW (j:=5) I ir (Zv I) (Zv I) Uq Uq) ?_;refine US 22 I (bL ir ne) (dG h (bX (j:=5) I)) ?_;refine UF 23 I (cA I I (Zv I) MT) ?_;refine UF 24 I (tI (Zv I) (Zv I) O I) ?_;refine ZE 25 ?_;refine ZE 26 ?_;refine UF 27 I (cW (j:=6) I ir (Zv I) (Zv I) Uq Uq) ?_;refine US 28 I (bL ir ne) (dG h (bX (j:=6) I)) ?_;refine UF 29 I (cA I I (Zv I) MT) ?_;refine UF 30 I (tI (Zv I) (Zv I) O I) ?_;refine ZE 31 ?_;refine ZE 32 ?_;refine UF 33 I (cW (j:=7) I ir (Zv I) (Zv I) Uq Uq) ?_;refine US 34 I (bL ir ne) (dG h (bX (j:=7) I)) ?_;refine UF 35 I (cA I I (Zv I) MT) ?_;refine UF 36 I (tI (Zv I) (Zv I) O I) ?_;refine UF 37 I (xA ne ne hib) ?_;refine ZE 38 ?_;refine cQ 39 Zk ?_;refine ZP λb4=>?_
 refine cQ 40 Zk (ZR ?_);refine fe ?_;refine Uu ?_;refine UD (λw hi=>HR w) ?_;refine kU ?_;refine Uu ?_;refine iz ?_;exact Wa
theorem hb_take(i:HI)(l:List HI):(cD (i::l)).take 8=sF i:=by
 simp[sF,cD]
theorem hb_drop(i:HI)(l:List HI):(cD (i::l)).drop 8=cD l:=by
 simp[sF,cD]
theorem hall_ok(A:Oa)(c:Nat)(l:List HI)(hg:fY l)(hl:J l<=100000)(w:World)(h:Rd w .u8 A (J (cD l)) c (cD l)):
  Uz prog 242 [.slice A (J (cD l)) c] w [] (λv cs=>∃A' c',v= .tuple #[.slice A' (J l) c',.i 0]/\cs=[Wu A' c' l]):=by
 refine UB func242 ntmps242 ?_;refine UG ?_;refine dg 370 5 (Uu ?_);refine UX (λq:Nat×(Option Addr×Nat)×(Option Addr×Nat)=>[(0,.slice q.2.1.1 (J (cD (l.drop q.1))) q.2.1.2),(4,.slice q.2.2.1 (J (l.take q.1)) q.2.2.2)]) (λq=>[Wu q.2.2.1 q.2.2.2 (l.take q.1)]) (λq=>q.1<=J l/\Rd w .u8 q.2.1.1 (J (cD (l.drop q.1))) q.2.1.2 (cD (l.drop q.1))) (λq=>J l - q.1) (⟨0,⟨A,c⟩,⟨none,0⟩⟩) Do ?_;rintro⟨k,⟨A1,c1⟩,⟨A2,c2⟩⟩ ⟨hk,h1⟩;dsimp only at hk h1|-;have hcap:=h1.cap;have hmx:=h1.max;simp only[maxLen]at hmx;have hlk:J (l.take k)=k:=Do;refine V1 ?_ ?_<;>intro hc2
 .simp only[ah]at hc2;have hkl:k<J l:=(by rw[jj,List.length_drop]at hc2;omega);obtain⟨i,hx⟩:∃i,l[k]? =some i:=⟨_,aj hkl⟩;have hgi:=hg i (az hx);have htk:l.take (k+1)=l.take k++[i]:=(by rw[List.take_add_one,hx];rfl);have hdr:l.drop k=i::l.drop (k+1):=(by obtain⟨q1,q2⟩:=ap.1 hx;rw[<-q2];exact List.drop_eq_getElem_cons q1);have hn8:J (cD (l.drop k))=8+J (cD (l.drop (k+1))):=(by rw[hdr];show(sF i++_).length=_;rw[ar];rfl);have h2:=kz h1 8;rw[hdr,hb_take]at h2;have HD:=Ht A1 c1 i hgi;have h3:=h1.cut (lo:=8) (hi:=J (cD (l.drop k))) O (aL _);have e3:((ints .u8 (cD (l.drop k))).take (J (cD (l.drop k)))).drop 8=ints .u8 (cD (l.drop (k+1))):=(by rw[List.take_of_length_le (by simp[ints]),hdr];show((cD (i::l.drop (k+1))).map _).drop 8=_;rw[<-List.map_drop,hb_drop];rfl);rw[e3,show(cD (l.drop k)).length - 8=J (cD (l.drop (k+1))) by omega]at h3;have htl:J (l.take (k+1))=k+1:=Do;obtain⟨N,hN⟩:=Uk (J (cD (l.drop k)));rw[hN]at hn8 h1 hcap|-;refine UG ?_;refine Zy (Ny (Zv I) (Zv I) (show _=((8:Nat):Int)from by omega)) ?_;refine Zy (eO 8 I ir (Zv I) (Zv I) qD Uq) ?_;refine UD (λw hi=>HD w (h2.SS hi)) ?_;refine Us ?_;refine ZN λb5=>?_
  refine rI ?_;refine jn ?_;refine UA ?_;refine y6 ?_;rintro _ _ ⟨b24,rfl,rfl⟩;refine gJ (cu (e:=370) (sz:=5) (bytes:=40) I I Za I I (λw hi=>hi.rd (Ur (slv 370 5 (sA b24) 1 1 i.cells))) (ka I) gI O) I ?_;rintro _ _ ⟨A3,c3,rfl,rfl⟩;rw[hi_snoc,<-htk,show(l.take k).length+1=J (l.take (k+1)) by omega];refine Uu ?_;refine Zy (xz (lo:=8) (hi:=N) I ir (Zv I) (.inr ⟨_,_,I,(Zv I)⟩) (.inl ⟨I,I⟩) O O) ?_;rw[show N - 8=J (cD (l.drop (k+1))) from by omega];refine Us ?_;refine Vo ((⟨k+1,⟨if c1=8 then A1 else A1.map (·.add (8*1)),c1 - 8⟩,⟨A3,c3⟩⟩:Nat×(Option Addr×Nat)×(Option Addr×Nat))) Do
 simp only[aa]at hc2;obtain rfl:k=J l:=(by rw[jj,List.length_drop]at hc2;omega);rw[List.take_length];refine YJ ?_;exact pF
end
end Go.Ink
