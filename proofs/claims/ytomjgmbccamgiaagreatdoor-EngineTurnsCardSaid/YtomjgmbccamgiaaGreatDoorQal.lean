/- Lemmas. -/
import Derived.Test.YtomjgmbccamgiaaGreatDoorQaa
import Derived.Test.YtomjgmbccamgiaaGreatDoorQab
import Derived.Test.YtomjgmbccamgiaaGreatDoorQak
set_option linter.unusedSimpArgs false
set_option linter.unusedVariables false
set_option maxRecDepth 100000
set_option maxHeartbeats 4000000
namespace Go.Ink
open Go.RowKit
def nD(n at_:Int):Bool:=decide (0≤n)&&decide (n<at_)
def oH(l:List Int):Bool:=l.all fun n=>decide (0≤n)&&decide (n≤16)
def jg(Ii Ij:Int)(i:Nat)(x:II):Bool:=
 bif x.dst !=i then false else
 bif x.op==0 then x.a==0&&x.b==0 else
 bif x.op==1 then(x.a==0&&x.b==0)&&decide (x.imm<Ii)else
 bif x.op==2 then(x.a==0&&x.b==0)&&decide (x.imm<Ij)else
 bif x.op==3 then((nD x.a i&&nD x.b i)&&decide (16≤x.imm))&&decide (x.imm≤23)else
 bif x.op==4 then(nD x.a i&&nD x.b i)&&((decide (16≤x.imm)&&decide (x.imm≤23))||x.imm==25)else false
def iJ(Ii Ij:Int):List II→Nat→Bool
 |[],_=>true
 |x::c,i=>jg Ii Ij i x&&iJ Ii Ij c (i+1)
def Pg.I2(p:Pg):Bool:=oH [p.Ii,p.Ij,p.IK,p.IN]&&(!decide (p.count<1)&& !decide (8<p.count))
def Pg.I1(p:Pg):Bool:=
 (!((p.flags != -1&& !nD p.flags p.code.length)||(p.target != -1&& !nD p.target p.code.length)))&&(p.branch==0||((decide (33≤p.branch)&&decide (p.branch≤37))&&p.target== -1))
def Pg.Iw(p:Pg):Bool:=p.I2&&(iJ p.Ii p.Ij p.code 0&&((p.Iq.all fun n=>nD n p.code.length)&&((p.Ir.all fun n=>nD n p.code.length)&&p.I1)))
def dP(p:Pg):Pl:=gS (gn p) 7 p.code.length p.code.length
theorem pG{Ii Ij:Int}:∀(c:List II) (i:Nat),iJ Ii Ij c i=true→∀(j:Nat) (x:II),c[j]? =some x→jg Ii Ij (i+j) x=true
 |[],_,_,j,x,h=>by cases h
 |y::c,i,hm,0,x,h=>by
  have hm:(jg Ii Ij i y&&iJ Ii Ij c (i+1))=true:=hm;rw[aB]at hm;obtain rfl:y=x:=by simpa using h
  exact hm.1
 |y::c,i,hm,j+1,x,h=>by
  have hm:(jg Ii Ij i y&&iJ Ii Ij c (i+1))=true:=hm;rw[aB]at hm;have:=pG c (i+1) hm.2 j x (by simpa using h);rwa[show i+1+j=i+(j+1) by omega]at this
theorem x9{Ii Ij:Int}{i:Nat}{x:II}(h:jg Ii Ij i x=true)(him:0≤x.imm∧x.imm≤4294967295):x.ok Ii Ij i:=by
 obtain⟨op,dst,a,b,imm⟩:=x;unfold jg at h;dsimp only at h him;cases h0:dst !=(i:Int)with
 |true=>rw[h0]at h;cases h
 |false=>
 rw[h0,aa]at h;cases c0:op==0 with
 |true=>exact⟨him,Or.inl (by simpa using c0),fun hab=>by simp at c0;dsimp only at hab;omega⟩
 |false=>
 rw[c0,aa]at h;cases c1:op==1 with
 |true=>
  rw[c1,ac]at h;simp only[aB,ap,beq_iff_eq]at h c1;exact⟨him,Or.inr (Or.inl ⟨c1,h.2⟩),fun hab=>by dsimp only at hab;omega⟩
 |false=>
 rw[c1,aa]at h;cases c2:op==2 with
 |true=>
  rw[c2,ac]at h;simp only[aB,ap,beq_iff_eq]at h c2;exact⟨him,Or.inr (Or.inr (Or.inl ⟨c2,h.2⟩)),fun hab=>by dsimp only at hab;omega⟩
 |false=>
 rw[c2,aa]at h;cases c3:op==3 with
 |true=>
  rw[c3,ac]at h;simp only[nD,aB,ap,beq_iff_eq]at h c3;exact⟨him,Or.inr (Or.inr (Or.inr (Or.inl ⟨c3,h.1.2,h.2⟩))),fun _=>⟨h.1.1.1,h.1.1.2⟩⟩
 |false=>
 rw[c3,aa]at h;cases c4:op==4 with
 |true=>
  rw[c4,ac]at h;simp only[nD,aB,Bool.or_eq_true,ap,beq_iff_eq]at h c4;exact⟨him,Or.inr (Or.inr (Or.inr (Or.inr ⟨c4,h.2⟩))),fun _=>⟨h.1.1,h.1.2⟩⟩
 |false=>rw[c4,aa]at h;cases h
theorem ri{p:Pg}(h:p.Iw=true)(him:ImC p.code)(hn:p.code.length≤64)(hnx:u32 p.next)(htk:u32 p.taken):PgOk p (gn p)∧(p.branch≠0→p.target= -1)∧(p.flags= -1∨0≤p.flags)∧(p.target= -1∨0≤p.target):=by
 unfold Pg.Iw Pg.I2 Pg.I1 oH at h;simp only[aB,Bool.not_eq_true',Bool.or_eq_true,bl,Bool.and_eq_false_iff,ap,aj,List.all_cons,List.all_nil,bD,beq_iff_eq,bne_eq_false_iff_eq,Bool.not_eq_false',nD]at h;obtain⟨⟨⟨d1,d2,d3,d4, -⟩,c1,c2⟩,hm,hoD,hoR,⟨hf,ht⟩,hb⟩:=h;have hok:OkC p.Ii p.Ij p.code:=fun n x hx=>by
  have:=pG p.code 0 hm n x hx;rw[bo]at this;exact x9 this (him x (aK hx))
 refine⟨⟨hok,fun n x hx ho=>?_,fun n hn=>⟨(hoD n hn).1,(hoD n hn).2,oa p (Or.inl hn) (hoD n hn)⟩,fun n hn=>⟨(hoR n hn).1,(hoR n hn).2,oa p (Or.inr (Or.inl hn)) (hoR n hn)⟩,fun h0=>?_,fun h0=>?_,?_,hn,d1,d2,d3,d4,hnx,htk,by omega⟩,?_,?_,?_⟩
 ·have hl:=(au.1 hx).1;obtain⟨a,b⟩:=(hok n x hx).ab ho;exact Dk p hx (by unfold kp;rcases ho with e|e<;>rw[e]<;>rfl) ⟨a.1,by omega⟩ ⟨b.1,by omega⟩
 ·have hf:0≤p.flags∧p.flags<p.code.length:=by rcases hf with e|e;omega;exact e
  exact⟨hf.2,oa p (Or.inr (Or.inr (Or.inl rfl))) hf⟩
 ·have ht:0≤p.target∧p.target<p.code.length:=by rcases ht with e|e;omega;exact e
  exact⟨ht.2,oa p (Or.inr (Or.inr (Or.inr rfl))) ht⟩
 ·rcases hb with e|e
  ·exact Or.inl e
  exact Or.inr e.1
 ·intro hne;rcases hb with e|e
  ·exact absurd e hne
  exact e.2
 ·rcases hf with e|e
  ·exact Or.inl e
  exact Or.inr e.1
 rcases ht with e|e
 ·exact Or.inl e
 exact Or.inr e.1
theorem uK(k:Int)(c:List II)(s:Sd):(eW k c s).2.1.length≤c.length+1:=by
 unfold eW;cases s.l.getLast? with
 |some n=>exact Nat.le_succ _
 |none=>simp
theorem one_len{op:Int}(hp:dD op=true)(w:Lw)(n nx:Int):(w.one op n nx).code.length≤w.code.length+4:=by
 have hD:w.In.2.code.length≤w.code.length+1:=uK 1 w.code w.d;have hR:w.IS.2.code.length≤w.code.length+1:=uK 2 w.code w.r;have hP:w.In.2.In.2.code.length≤w.code.length+2:=aY (uK 1 w.In.2.code w.In.2.d) (by omega);have hA:∀(v:Lw) (a b c d:Int),(v.add a b c d).code.length=v.code.length+1:=fun v a b c d=>by simp[Lw.add]
 rcases nV hp with rfl|rfl|rfl|rfl|rfl|rfl|rfl|rfl|rfl|hr|hr|rfl|hr|rfl|rfl|rfl
 ·exact Nat.le_add_right _ _
 ·show(w.add 0 0 0 n).code.length≤_;rw[hA];omega
 ·show(w.add 0 0 0 n).code.length≤_;rw[hA];omega
 ·show w.In.2.code.length≤_;omega
 ·show w.In.2.code.length≤_;omega
 ·show w.In.2.In.2.code.length≤_;omega
 ·show w.In.2.In.2.code.length≤_;omega
 ·show w.In.2.code.length≤_;omega
 ·show w.IS.2.code.length≤_;omega
 ·show(w.go op n nx).code.length≤_;rw[kE (Or.inl hr)];unfold Lw.reckon;rw[show(op !=25)=true by simp;omega];show(((w.In.2.In.2.add 4 w.In.2.In.1 w.In.1 op).wfl w.In.2.In.2.here).add 3 w.In.2.In.1 w.In.1 op).code.length≤_;rw[hA];show(w.In.2.In.2.add 4 w.In.2.In.1 w.In.1 op).code.length+1≤_;rw[hA];omega
 ·subst hr;show(w.In.2.In.2.add 4 w.In.2.In.1 w.In.1 25).code.length≤_;rw[hA];omega
 ·exact Nat.le_add_right _ _
 ·have h5:op=33∨op=34∨op=35∨op=36∨op=37:=by omega
  rcases h5 with rfl|rfl|rfl|rfl|rfl<;>exact Nat.le_add_right _ _
 ·show(w.add 0 0 0 nx).code.length≤_;rw[hA];omega
 ·show w.IS.2.code.length≤_;omega
 show w.In.2.code.length≤_;omega
theorem rG:∀(l:List (Int×Int)) (pc:Int) (w:Lw) (q:Int×Lw),lT pc w l=some q→q.2.code.length≤w.code.length+4*l.length
 |[],pc,w,q,h=>by obtain rfl:(pc,w)=q:=aJ h;exact aQ _
 |i::l,pc,w,q,h=>by
  obtain⟨-,h2, -,h4⟩:=kD h;have h5:=rG l _ _ q h4;have h6:=one_len h2 w i.2 (IntKind.u32.wrap (pc+IntKind.u32.wrap (cG i.1)));simp only[ai];omega
theorem om(U:List Bool):∀(suf:List II) (i:Nat) (pl:List Int) (c:List II),(kF U suf i pl c).2.length≤c.length+suf.length
 |[],_,_,_=>aQ _
 |x::suf,i,pl,c=>by
  show(bif U.getD i false then kF U suf (i+1) _ _ else kF U suf (i+1) pl c).2.length≤_;cases U.getD i false with
  |true=>have:=om U suf (i+1) (pl.set i (c.length:Int)) (c++[mT x (pl.set i (c.length:Int)) c.length]);simp at this⊢;omega
  |false=>have:=om U suf (i+1) pl c;simp at this⊢;omega
theorem oo(U:List Bool):∀(suf:List II) (i:Nat) (pl:List Int) (c:List II),ImC c→ImC suf→ImC (kF U suf i pl c).2
 |[],_,_,_,h,_=>h
 |x::suf,i,pl,c,h,hs=>by
  show ImC (bif U.getD i false then kF U suf (i+1) _ _ else kF U suf (i+1) pl c).2;have hs':ImC suf:=fun y hy=>hs y (bC _ hy)
  cases U.getD i false with
  |true=>
   refine oo U suf (i+1) _ _ (h.snoc ?_) hs';have:=hs x (by simp);unfold mT;cases kp x<;>exact this
  |false=>exact oo U suf (i+1) pl c h hs'
def fV(W:List Int)(from_ n:Nat):List Int:=(List.range n).map fun k=>W.getD (from_+k) 0
def mU(W:List Int)(s:St):St:=⟨W.getD 0 0,fV W 4 (W.getD 2 0).toNat,fV W 20 (W.getD 3 0).toNat,W.getD 1 0,s.Il,s.It,s.ie,s.root,s.vec,s.epc,s.Im,s.addr,s.Ix,s.eie,IntKind.u64.wrap (s.count+W.getD 36 0),s.halted⟩
theorem vE{W D out:List Int}{f k:Nat}{n:Int}(hn:n=((D.length - k+out.length:Nat):Int))(hlow:∀i,i<D.length - k→W.getD (f+i) 0=D.getD i 0)(hnew:∀i,i<out.length→W.getD (f+(D.length - k)+i) 0=out.getD i 0):
  fV W f n.toNat=D.take (D.length - k)++out:=by
 subst hn;rw[aS];have hl:(D.take (D.length - k)).length=D.length - k:=by rw[az];omega
 apply List.ext_getElem?;intro i;unfold fV;rw[bj];by_cases hi:i<D.length - k+out.length
 ·rw[List.getElem?_range hi];by_cases h1:i<D.length - k
  ·rw[bE (by omega),List.getElem?_take,if_pos h1];show some (W.getD (f+i) 0)=_;rw[hlow i h1,ax,ak (show i<D.length by omega)];rfl
  rw[bG (by omega),hl];show some (W.getD (f+i) 0)=_;have:=hnew (i - (D.length - k)) (by omega);rw[show f+(D.length - k)+(i - (D.length - k))=f+i by omega]at this;rw[this,ax,ak (show i - (D.length - k)<out.length by omega)];rfl
 rw[List.getElem?_eq_none (by simp;omega),List.getElem?_eq_none (by rw[ae,hl];omega)];rfl
theorem yK{n:Nat}{U:Mmu}{d:Dev}(hU:UOk n U)(hdv:d.ok){s:St}(hwf:s.wf)(hr:s.right=true){l:List (Int×Int)}(hu:∀i,i∈l→u32 i.2){p:Pg}(hlow:fq s.pc l=some p)(hright:p.Iw=true){M:HM}{f:Nat}
  (jo:jo (gr p (dP p)) f ⟨List.replicate 16 0,IU s,0⟩=((1,1),M)):
  BB l s (mU M.words s)∧(mU M.words s).wf∧(mU M.words s).right=true∧Ie s (mU M.words s) l.length∧1≤l.length∧l.length≤8∧M.words.getD 2 0≤16∧M.words.getD 3 0≤16∧M.words.getD 1 0≤15:=by
 obtain⟨hd16,hr16, -⟩:=St.fits hr;unfold fq at hlow;cases hlen:decide ((l.length:Int)<1)||decide (8<(l.length:Int))with
 |true=>rw[hlen]at hlow;cases hlow
 |false=>
 rw[hlen,aa]at hlow;simp only[bl,aj]at hlen;have hl0:l≠[]:=fun e=>by rw[e]at hlen;simp at hlen
 cases hgo:lT s.pc Lw.init l with
 |none=>rw[hgo]at hlow;cases hlow
 |some q=>
 rw[hgo]at hlow;obtain⟨nx,w⟩:=q;obtain rfl:=aJ hlow;obtain⟨lk, -,hnx⟩:=qC l s.pc Lw.init _ hu hgo rF;have hnx:=hnx hl0;dsimp only at lk hnx;obtain⟨i,hi⟩:=Zgn (l.getLastD (0,0));rw[hi]at hright jo;obtain⟨p0,hp0⟩:=Zgn (uG nx w i l.length);rw[hp0]at hright jo;have f1:p0.code=w.code:=by rw[←hp0];rfl
 have f2:p0.Iq=w.d.l:=by rw[←hp0];rfl
 have f3:p0.Ir=w.r.l:=by rw[←hp0];rfl
 have f4:p0.flags=w.flags:=by rw[←hp0];rfl
 have f5:p0.target=w.target:=by rw[←hp0];rfl
 have f6:p0.branch=w.branch:=by rw[←hp0];rfl
 have raw:Raw p0:=⟨by rw[f1];exact lk.wf,by rw[f1];exact lk.ops,by rw[f1,f2];exact lk.d,by rw[f1,f3];exact lk.r,by rw[f1,f4];exact lk.flags,by rw[f1,f5];exact lk.target⟩;have g1:(cN p0).Ii=w.d.Ik:=by rw[←hp0];rfl
 have g2:(cN p0).Ij=w.r.Ik:=by rw[←hp0];rfl
 have g3:(cN p0).IK=w.d.high:=by rw[←hp0];rfl
 have g4:(cN p0).IN=w.r.high:=by rw[←hp0];rfl
 have g5:(cN p0).next=bif i.1==32||i.1==38 then IntKind.u32.wrap (nx+kL i.2)else nx:=by rw[←hp0];rfl
 have g6:(cN p0).taken=bif i.1==32||i.1==38 then 0 else bif w.branch !=0 then IntKind.u32.wrap (nx+kL i.2)else 0:=by rw[←hp0];rfl
 have g7:(cN p0).branch=w.branch:=by rw[←hp0];rfl
 have g8:(cN p0).count=l.length:=by rw[←hp0];rfl
 have hlen4:=rG l s.pc Lw.init _ hgo;have hlen5:w.code.length≤32:=by have:Lw.init.code.length=0:=rfl;dsimp only at hlen4;omega
 have hlen6:(cN p0).code.length≤64:=by
  have:=om (fU p0) p0.code 0 (List.replicate p0.code.length 0) [];have e:(cN p0).code=(kF (fU p0) p0.code 0 (List.replicate p0.code.length 0) []).2:=rfl;rw[e];rw[f1]at this⊢;simp at this;omega
 have himc:ImC (cN p0).code:=oo (fU p0) p0.code 0 _ [] (fun _ h=>by cases h) (by rw[f1];exact lk.imm);have hn32:u32 (cN p0).next:=by rw[g5];cases i.1==32||i.1==38 with|true=>exact s6 _|false=>exact hnx
 have ht32:u32 (cN p0).taken:=by
  have z:u32 0:=⟨by decide,by decide⟩;rw[g6];cases i.1==32||i.1==38 with
  |true=>exact z
  |false=>cases w.branch !=0 with
   |true=>exact s6 _
   |false=>exact z
 obtain⟨pok,pbt,pfl,ptg⟩:=ri hright himc hlen6 hn32 ht32;have hplan:ES (dP (cN p0)) (gn (cN p0)) (cN p0).code.length:=CQ (fun i hi=>Dl (cN p0) hi) hlen6;have hgo2:HGo (gr (cN p0) (dP (cN p0))) 0 (gr (cN p0) (dP (cN p0))) (List.replicate 16 0) (IU s) M:=⟨List.drop_zero,by simp,y7 s,f,jo⟩;have left:=GN pok hplan hr hwf hgo2;have li0:LI s.d s.r Lw.init s.d s.r:=⟨⟨bF _,by show(0:Int)≤_;omega,by show s.d=s.d.take (s.d.length - (0:Int).toNat)++[];simp,fun _ h=>by cases h⟩,⟨bF _,by show(0:Int)≤_;omega,by show s.r=s.r.take (s.r.length - (0:Int).toNat)++[];simp,fun _ h=>by cases h⟩⟩;have n1:=left.Ii;have n2:=left.Ij;have n3:=left.IK;have n4:=left.IN;rw[g1]at n1;rw[g2]at n2;rw[g3]at n3;rw[g4]at n4;obtain⟨s',c1,c2,c3,c4,c5,c6,c7,c8⟩:=ze hU hdv hd16 hr16 l s Lw.init (nx,w) hl0 hu hgo hwf hr li0 (Or.inl ⟨rfl,rfl⟩) rfl rfl n1 n2 n3 n4;rw[hi]at c6 c8;dsimp only at c4 c5 c6 c8;obtain⟨V,hV⟩:=Zgn (IQ s.d s.r (cN p0).code);have hmv:∀m,(m∈p0.Iq∨m∈p0.Ir∨m=p0.flags∨m=p0.target)→II.in_ m w.code→0≤(eu p0).1.getD m.toNat 0∧V.getD ((eu p0).1.getD m.toNat 0).toNat 0=dZ s.d s.r w.code m:=fun m h1 h2=>by
  have h3:=Cq (D:=s.d) (R:=s.r) raw h1 (by rw[f1];exact h2);rw[f1]at h3;refine⟨h3.1.1,?_⟩;rw[←hV];exact h3.2
 rw[hV]at left;have hoD:(cN p0).Iq=cU (eu p0).1 w.d.l:=by rw[←f2];rfl
 have hoR:(cN p0).Ir=cU (eu p0).1 w.r.l:=by rw[←f3];rfl
 have hfl:(cN p0).flags=eA (eu p0).1 w.flags:=by rw[←f4];rfl
 have htg:(cN p0).target=eA (eu p0).1 w.target:=by rw[←f5];rfl
 have hc3:=c3;obtain⟨-, -,fl15⟩:=St.fits c3;have hfl0:=c2.flags;have eF:(cN p0).Ji V s.flags=s'.flags:=by
  unfold Pg.Ji;rw[hfl];rcases c5 with⟨q1,q2⟩|⟨q1,q2⟩
  ·rw[q1];exact q2.symm
  have hne:w.flags≠ -1:=by have:=q1.1;omega
  have h3:=hmv w.flags (by rw[f4];simp) q1;unfold eA;rw[show(w.flags != -1)=true by simpa using hne,ac,aG h3.1,ac,h3.2,←q2];have:=hfl0.1;omega
 have ePc:(cN p0).Ja V s'.flags=s'.pc:=by
  rw[c6];unfold Pg.Ja pI;rw[htg,g5,g6,g7];rw[htg]at ptg pbt;rw[g7]at pbt;by_cases ht:w.target= -1
  ·have em:eA (eu p0).1 w.target= -1:=by unfold eA;rw[ht];rfl
   rw[em,show decide ((0:Int)≤ -1)=false from rfl,aa,ht,show((-1:Int)== -1)=true from rfl,ac];cases hh:(dg w.branch s'.flags).1 with
   |false=>rfl
   |true=>
    have hb:w.branch≠0:=fun e=>by rw[e]at hh;cases hh
    have hop:(i.1==32||i.1==38)=false:=by
     cases he:(i.1==32||i.1==38)with
     |false=>rfl
     |true=>exact absurd (c8 he) hb
    rw[hop,show(w.branch !=0)=true by simpa using hb];rfl
  have hin:II.in_ w.target w.code:=by rcases lk.target with e|e;exact absurd e ht;exact e
  have h3:=hmv w.target (by rw[f5];simp) hin;have em:eA (eu p0).1 w.target=(eu p0).1.getD w.target.toNat 0:=by unfold eA;rw[show(w.target != -1)=true by simpa using ht];rfl
  have hb0:w.branch=0:=by
   by_cases hb:w.branch=0
   ·exact hb
   have:=pbt hb;rw[em]at this;have:=h3.1;omega
  rw[em,aG h3.1,ac,h3.2,hb0,show(dg 0 s'.flags).1=false from rfl,aa,show(w.target== -1)=false by simpa using ht];rfl
 have Jt:(cN p0).Iq.length=w.d.l.length:=by rw[hoD];simp[cU]
 have lenR:(cN p0).Ir.length=w.r.l.length:=by rw[hoR];simp[cU]
 have outsEq:∀(L:List Int),(∀m,m∈L→(m∈p0.Iq∨m∈p0.Ir∨m=p0.flags∨m=p0.target)∧II.in_ m w.code)→∀j,j<L.length→V.getD ((cU (eu p0).1 L).getD j 0).toNat 0=(L.map (dZ s.d s.r w.code)).getD j 0:=fun L hL j hj=>by
  have hm:L[j]? =some L[j]:=ak hj;obtain⟨h1,h2⟩:=hL L[j] (List.getElem_mem hj);have e1:(cU (eu p0).1 L).getD j 0=(eu p0).1.getD (L[j]).toNat 0:=by unfold cU;rw[ax,bj,hm];rfl
  have e2:(L.map (dZ s.d s.r w.code)).getD j 0=dZ s.d s.r w.code L[j]:=by rw[ax,bj,hm];rfl
  rw[e1,e2];exact(hmv _ h1 h2).2
 have hLD:∀m,m∈w.d.l→(m∈p0.Iq∨m∈p0.Ir∨m=p0.flags∨m=p0.target)∧II.in_ m w.code:=fun m hm=>⟨Or.inl (by rw[f2];exact hm),lk.d m hm⟩
 have hLR:∀m,m∈w.r.l→(m∈p0.Iq∨m∈p0.Ir∨m=p0.flags∨m=p0.target)∧II.in_ m w.code:=fun m hm=>⟨Or.inr (Or.inl (by rw[f3];exact hm)),lk.r m hm⟩
 have eD:fV M.words 4 (M.words.getD 2 0).toNat=s'.d:=by
  rw[c4.d.eq];have a1:=left.Jt;have a2:=left.lowD;have a3:=left.newD;rw[g1]at a1 a2 a3;rw[Jt]at a1 a3;refine vE (by rw[a1];simp) a2 (fun j hj=>?_);have hj:j<w.d.l.length:=by simpa using hj
  rw[a3 j hj,hoD];exact outsEq w.d.l hLD j hj
 have eR:fV M.words 20 (M.words.getD 3 0).toNat=s'.r:=by
  rw[c4.r.eq];have a1:=left.lenR;have a2:=left.lowR;have a3:=left.newR;rw[g2]at a1 a2 a3;rw[lenR]at a1 a3;refine vE (by rw[a1];simp) a2 (fun j hj=>?_);have hj:j<w.r.l.length:=by simpa using hj
  rw[a3 j hj,hoR];exact outsEq w.r.l hLR j hj
 have eS:mU M.words s=s':=by
  unfold mU;have hk:s'=_:=c7;rw[left.pc,left.flags,left.count,eF,ePc,eD,eR,g8];rw[hk]
 have hfit1:=left.fitD;have hfit2:=left.fitR;have hw2:=left.Jt;have hw3:=left.lenR;rw[eS];exact⟨c1,c2,c3,c7,by omega,by omega,by omega,by omega,by rw[left.flags,eF];omega⟩
abbrev HI.cells(i:HI):List Value:=[.int .i64 i.op,.int .i64 i.rd,.int .i64 i.ra,.int .i64 i.rb,.int .u32 i.imm]
abbrev hiv(i:HI):Value:= .agg i.cells.toArray
def eB(i:HI):HI×Bool:=
 bif i.op==0 then(⟨i.op,0,0,0,0⟩,true)else bif i.op==1 then(⟨i.op,i.rd,0,0,i.imm⟩,true)else bif i.op==2 then(⟨i.op,i.rd,i.ra,0,0⟩,true)else
 bif decide (3≤i.op)&&decide (i.op≤13)then(⟨i.op,i.rd,i.ra,i.rb,0⟩,true)else bif i.op==14 then(⟨i.op,i.rd,i.ra,0,i.imm⟩,true)else bif i.op==15 then(⟨i.op,0,i.ra,i.rb,i.imm⟩,true)else
 bif i.op==16||i.op==17 then(⟨i.op,0,i.ra,0,i.imm⟩,true)else bif i.op==18||i.op==19 then(⟨i.op,0,0,0,i.imm⟩,true)else(⟨i.op,0,0,0,0⟩,false)
structure HI.I9(i:HI):Prop where
 asked:eB i=(i,true)
 rd:0≤i.rd∧i.rd≤15
 ra:0≤i.ra∧i.ra≤15
 rb:0≤i.rb∧i.rb≤15
 imm:0≤i.imm∧i.imm≤4294967295
theorem HI.I9.op{i:HI}(h:i.I9):0≤i.op∧i.op≤19:=by
 have ha:=h.asked;unfold eB at ha;by_cases c0:i.op=0
 ·omega
 by_cases c1:i.op=1
 ·omega
 by_cases c2:i.op=2
 ·omega
 by_cases c3:3≤i.op∧i.op≤19
 ·omega
 rw[show(i.op==0)=false by simpa using c0,show(i.op==1)=false by simpa using c1,show(i.op==2)=false by simpa using c2,show(decide (3≤i.op)&&decide (i.op≤13))=false by(simp;omega),
  show(i.op==14)=false by(simp;omega),show(i.op==15)=false by(simp;omega),show(i.op==16)=false by(simp;omega),show(i.op==17)=false by(simp;omega),show(i.op==18)=false by(simp;omega),show(i.op==19)=false by(simp;omega)]at ha
 injection ha with _ h2
 cases h2
def qh(i:HI):List Int:=[i.op,i.rd,i.ra,i.rb,i.imm%256,i.imm/256%256,i.imm/65536%256,i.imm/16777216%256]
def cO(l:List HI):List Int:=l.flatMap qh
theorem iW:∀l:List HI,(cO l).length=8*l.length
 |[]=>rfl
 |i::l=>by
  have:=iW l;show(qh i++cO l).length=_;rw[ae,this];show 8+_=8*(l.length+1);omega
theorem yj(l:List HI)(i:HI):cO (l++[i])=cO l++qh i:=by simp[cO]
theorem or_up{a b k:Nat}(ha:a<2^k)(hab:b*2^k+a<4294967296)(hk:k≤24):bits .or .u32 (a:Int) (IntKind.u32.wrap ((b:Int)*2^(min (k:Int).toNat IntKind.u32.bits)))=((b*2^k+a:Nat):Int):=by
 have e1:min (k:Int).toNat IntKind.u32.bits=k:=by rw[aS];show min k 32=k;omega
 rw[e1];have e2:IntKind.u32.wrap ((b:Int)*2^k)=((b*2^k:Nat):Int):=by
  rw[aE];have:((b:Int)*2^k)=((b*2^k:Nat):Int):=by simp
  rw[this];omega
 rw[e2,or32 (by omega) (by omega),Nat.or_comm,Nat.mul_comm b,←Nat.two_pow_add_eq_or_of_lt ha]
theorem GA{m:Nat}(h:m<4294967296):bits .or .u32 (bits .or .u32 (bits .or .u32 ((m%256:Nat):Int) (IntKind.u32.wrap (((m/256%256:Nat):Int)*2^(min ((8:Nat):Int).toNat IntKind.u32.bits)))) (IntKind.u32.wrap (((m/65536%256:Nat):Int)*2^(min ((16:Nat):Int).toNat IntKind.u32.bits)))) (IntKind.u32.wrap (((m/16777216%256:Nat):Int)*2^(min ((24:Nat):Int).toNat IntKind.u32.bits)))=(m:Int):=by
 rw[or_up (k:=8) (by omega) (by omega) (by decide),or_up (k:=16) (by omega) (by omega) (by decide),or_up (k:=24) (by omega) (by omega) (by decide)];omega
theorem z15:(0:Int)≤0∧(0:Int)≤15:=by decide
theorem z32:(0:Int)≤0∧(0:Int)≤4294967295:=by decide
theorem iX{rd v:Int}(h:0≤rd∧rd≤15)(hv:0≤v∧v≤4294967295):HI.I9 ⟨1,rd,0,0,v⟩:=⟨rfl,h,z15,z15,hv⟩
theorem zq{rd ra:Int}(h:0≤rd∧rd≤15)(h2:0≤ra∧ra≤15):HI.I9 ⟨2,rd,ra,0,0⟩:=⟨rfl,h,h2,z15,z32⟩
theorem fR{op rd ra rb:Int}(ho:3≤op∧op≤13)(h:0≤rd∧rd≤15)(h2:0≤ra∧ra≤15)(h3:0≤rb∧rb≤15):HI.I9 ⟨op,rd,ra,rb,0⟩:=by
 refine⟨?_,h,h2,h3,z32⟩;unfold eB;dsimp only;rw[show(op==0)=false by(simp;omega),show(op==1)=false by(simp;omega),show(op==2)=false by(simp;omega),show(decide (3≤op)&&decide (op≤13))=true by(simp;omega)]
 rfl
theorem rU{rd ra v:Int}(h:0≤rd∧rd≤15)(h2:0≤ra∧ra≤15)(hv:0≤v∧v≤4294967295):HI.I9 ⟨14,rd,ra,0,v⟩:=⟨rfl,h,h2,z15,hv⟩
theorem pm{ra rb v:Int}(h:0≤ra∧ra≤15)(h2:0≤rb∧rb≤15)(hv:0≤v∧v≤4294967295):HI.I9 ⟨15,0,ra,rb,v⟩:=⟨rfl,z15,h,h2,hv⟩
theorem yl{op ra v:Int}(ho:op=16∨op=17)(h:0≤ra∧ra≤15)(hv:0≤v∧v≤4294967295):HI.I9 ⟨op,0,ra,0,v⟩:=by
 rcases ho with rfl|rfl<;>exact⟨rfl,z15,h,z15,hv⟩
theorem wM{v:Int}(hv:0≤v∧v≤4294967295):HI.I9 ⟨19,0,0,0,v⟩:=⟨rfl,z15,z15,z15,hv⟩
def ge(l:List HI):Prop:=∀i,i∈l→i.I9
theorem dm:ge []:=fun _ h=>by cases h
theorem cw{i:HI}{l:List HI}(h:i.I9)(k:ge l):ge (i::l):=fun j hj=>by
 rcases aM.1 hj with rfl|hj
 ·exact h
 exact k j hj
theorem dp{a b:List HI}(h:ge a)(k:ge b):ge (a++b):=fun j hj=>by
 rcases aV.1 hj with hj|hj
 ·exact h j hj
 exact k j hj
theorem GB(op:Int):3≤ka op∧ka op≤13:=by
 unfold ka;cases op==16<;>cases op==18<;>cases op==19<;>cases op==20<;>cases op==21<;>cases op==22<;>cases op==23<;>decide
section
variable {pl:Pl} {N:Nat}
theorem BC(x:Int):0≤IntKind.u32.wrap x∧IntKind.u32.wrap x≤4294967295:=by rw[aE];omega
theorem DS{r:Int}(h:0≤r∧r≤15):ge (Hx r):=cw (iX (by decide) (by decide)) (cw (fR (by decide) h h (by decide)) dm)
theorem wL{op rd a b:Int}(h:0≤rd∧rd≤15)(ha:0≤a∧a≤15)(hb:0≤b∧b≤15):ge (JI op rd a b):=by
 unfold JI;refine cw (fR (GB op) h ha hb) ?_;cases uP op with
 |true=>exact dm
 |false=>exact DS h
theorem oh{r up:Int}(h:0≤r∧r≤15)(hu:0≤up∧up≤4294967295):ge (sG r up):=cw (iX (by decide) hu) (cw (fR (by decide) h h (by decide)) (cw (fR (by decide) (by decide) (by decide) h) dm))
theorem pW{rd r:Int}(h:0≤rd∧rd≤15)(h2:0≤r∧r≤15):ge (gV rd r):=cw (iX (by decide) (by decide)) (cw (fR (by decide) h h2 (by decide)) dm)
theorem og:ge gI:=cw (fR (by decide) (by decide) (by decide) (by decide)) (dp (pW (by decide) (by decide)) (oh (by decide) (by decide)))
theorem Bh{op a b:Int}(ha:0≤a∧a≤15)(hb:0≤b∧b≤15):ge (la op a b):=by
 unfold la;refine dp (dp (wL (by decide) ha hb) (cw (fR (by decide) (by decide) (by decide) (by decide)) (dp (pW (by decide) (by decide)) (oh (by decide) (by decide))))) ?_;cases op==16 with
 |true=>exact cw (fR (by decide) (by decide) (by decide) ha) (dp (oh (by decide) (by decide)) (cw (fR (by decide) (by decide) ha (by decide)) (cw (fR (by decide) (by decide) hb (by decide)) og)))
 |false=>
  cases op==17||op==25 with
  |true=>exact cw (fR (by decide) (by decide) ha hb) (dp (oh (by decide) (by decide)) (cw (fR (by decide) (by decide) ha hb) (cw (fR (by decide) (by decide) ha (by decide)) og)))
  |false=>exact dm
theorem po{n into:Int}(h:pl.has n)(hi:0≤into∧into≤15):0≤dW pl n into∧dW pl n into≤15:=by
 unfold dW;rcases h with⟨h1,h2⟩|⟨h1,h2,h3⟩
 ·rw[h1];have h0:0≤pl.r n:=by unfold Pl.inR at h1;simpa using h1
  exact⟨h0,by show pl.r n≤15;omega⟩
 rw[h1];exact hi
theorem jM{n into:Int}(hi:0≤into∧into≤15):ge (jj pl n into):=by
 unfold jj;cases pl.inR n with
 |true=>exact dm
 |false=>exact cw (rU hi (by decide) (BC _)) dm
theorem Bg{n r:Int}(hr:0≤r∧r≤15):ge (iT pl n r):=by
 unfold iT;cases pl.inR n with
 |true=>exact dm
 |false=>exact cw (pm (by decide) hr (BC _)) dm
theorem DR{nd nr:Int}{n:Nat}{x:II}(hp:∀k:Nat,k<N→pl.has k)(hn:n<N)(hx:x.ok nd nr n):ge (o9 nd nr pl n x):=by
 have hN:=hp n hn;have h9:=po (into:=9) hN (by decide);have hab:x.op=3∨x.op=4→(0≤dW pl x.a 7∧dW pl x.a 7≤15)∧(0≤dW pl x.b 8∧dW pl x.b 8≤15):=fun ho=>by
  obtain⟨⟨a1,a2⟩,b1,b2⟩:=hx.ab ho;have ea:((x.a.toNat:Nat):Int)=x.a:=by omega
  have eb:((x.b.toNat:Nat):Int)=x.b:=by omega
  have ha:=hp x.a.toNat (by omega);have hb:=hp x.b.toNat (by omega);rw[ea]at ha;rw[eb]at hb;exact⟨po ha (by decide),po hb (by decide)⟩
 unfold o9;refine dp ?_ (Bg h9);obtain⟨op,dst,a,b,imm⟩:=x;have hop:=hx.op;have him:=hx.imm;dsimp only at hop him hab;rcases hop with rfl|⟨rfl, -⟩|⟨rfl, -⟩|⟨rfl, -⟩|⟨rfl, -⟩
 ·exact cw (iX h9 him) dm
 ·exact cw (rU h9 (by decide) (BC _)) dm
 ·exact cw (rU h9 (by decide) (BC _)) dm
 ·exact dp (jM (by decide)) (dp (jM (by decide)) (wL h9 (hab (Or.inl rfl)).1 (hab (Or.inl rfl)).2))
 exact dp (jM (by decide)) (dp (jM (by decide)) (dp (Bh (hab (Or.inr rfl)).1 (hab (Or.inr rfl)).2) (cw (zq h9 (by decide)) dm)))
theorem tO{nd nr:Int}(hp:∀k:Nat,k<N→pl.has k):∀(c:List II) (n:Nat),n+c.length≤N→(∀(i:Nat) (x:II),c[i]? =some x→x.ok nd nr (n+i))→ge (jw nd nr pl c n)
 |[],_,_,_=>dm
 |x::c,n,hn,h=>by
  simp only[ai]at hn;refine dp (DR hp (by omega) (by have:=h 0 x rfl;rwa[Nat.add_zero]at this)) (tO hp c (n+1) (by omega) (fun i y hy=>?_));have:=h (i+1) y (by simpa using hy);rwa[show n+(i+1)=n+1+i by omega]at this
theorem yk{n:Int}(hp:∀k:Nat,k<N→pl.has k)(h:0≤n∧n<N):pl.has n:=by
 have:=hp n.toNat (by omega);rwa[show((n.toNat:Nat):Int)=n by omega]at this
theorem wK{base f:Int}(hp:∀k:Nat,k<N→pl.has k)(hb:0≤base∧base≤15):∀(c:List Int) (k:Nat),(∀n,n∈c→0≤n∧n<N)→ge (tG pl base f c k)
 |[],_,_=>dm
 |n::c,k,h=>dp (jM (by decide)) (cw (pm hb (po (yk hp (h n (by simp))) (by decide)) (BC _)) (wK hp hb c (k+1) (fun m hm=>h m (bC _ hm))))
theorem rT{base f word:Int}{out:List Int}(hp:∀k:Nat,k<N→pl.has k)(hb:0≤base∧base≤15)(hw:0≤word∧word≤15)(h:∀n,n∈out→0≤n∧n<N):ge (hH pl base f word out):=
 dp (wK hp hb out 0 h) (cw (iX (by decide) (BC _)) (cw (fR (by decide) (by decide) (by decide) hb) (cw (pm (by decide) (by decide) (by omega)) dm)))
theorem pk{e base word Ik IE:Int}(he:0≤e∧e≤4294967295)(hb:0≤base∧base≤15)(hw:0≤word∧word≤15):ge (m8 e base word Ik IE):=
 cw (rU hb (by decide) (by omega)) (cw (iX (by decide) (BC _)) (cw (fR (by decide) (by decide) hb (by decide)) (cw (yl (Or.inr rfl) (by decide) he) (cw (iX (by decide) (BC _)) (cw (fR (by decide) (by decide) (by decide) hb) (cw (yl (Or.inr rfl) (by decide) he) (cw (fR (by decide) hb hb (by decide)) dm)))))))
theorem yg(op:Int):0≤fD op∧fD op≤4294967295:=by
 unfold fD;cases op==33<;>cases op==34<;>cases op==35<;>cases op==36<;>decide
theorem Bi{p:Pg}{T:List Int}(ok:PgOk p T)(hN:N=p.code.length)(hp:∀k:Nat,k<N→pl.has k):ge (gr p pl):=by
 subst hN;have hfl:=ok.flags;have htg:=ok.target;have h15:HI.I9 ⟨1,15,0,0,0⟩:=iX (by decide) (by decide);refine dp ?_ (cw (wM (by decide)) dm);unfold fu;obtain⟨e,he⟩:=Zgn (IntKind.u32.wrap ((fu p pl 0).length:Nat));have hee:=BC ((fu p pl 0).length:Nat);unfold fu at he hee;rw[he]at hee⊢;cases p.IV with
 |false=>exact cw h15 dm
 |true=>
  cases p.I5 with
  |false=>exact cw h15 (pk hee (by decide) (by decide))
  |true=>
   have hflags:ge (gE p pl):=by
    unfold gE;by_cases h0:0≤p.flags
    ·rw[aG h0];exact cw (iX (by decide) (by decide)) (dp (jM (by decide)) (cw (fR (by decide) (by decide) (by decide) (po (yk hp ⟨h0,(hfl h0).1⟩) (by decide))) (cw (pm (by decide) (by decide) (by decide)) dm)))
    rw[aF h0];exact dm
   have htarget:ge (iQ p pl):=by
    unfold iQ;by_cases h0:0≤p.target
    ·rw[aG h0];exact dp (jM (by decide)) (cw (zq (by decide) (po (yk hp ⟨h0,(htg h0).1⟩) (by decide))) dm)
    rw[aF h0];exact dm
   have hbranch:∀q,ge (gh p q):=fun q=>by
    unfold gh;cases p.branch !=0 with
    |false=>exact dm
    |true=>exact cw (rU (by decide) (by decide) (by decide)) (cw (iX (by decide) (yg _)) (cw (fR (by decide) (by decide) (by decide) (by decide)) (cw (yl (by cases gY p.branch;exact Or.inr rfl;exact Or.inl rfl) (by decide) (BC _)) (cw (iX (by decide) ok.taken) dm))))
   show ge (qg p e++(iy p pl++qF p pl (17+(iy p pl).length)));refine dp (cw h15 (dp (pk hee (by decide) (by decide)) (pk hee (by decide) (by decide)))) (dp (dp (tO hp p.code 0 (by omega) (fun i x hx=>by rw[bo];exact ok.code i x hx)) (dp (rT hp (by decide) (by decide) (fun n hn=>⟨(ok.Iq n hn).1,(ok.Iq n hn).2.1⟩)) (rT hp (by decide) (by decide) (fun n hn=>⟨(ok.Ir n hn).1,(ok.Ir n hn).2.1⟩)))) ?_);unfold qF;exact dp hflags (cw (iX (by decide) ok.next) (dp (hbranch _) (dp htarget (cw (pm (by decide) (by decide) (by decide)) (cw (iX (by decide) (BC _)) (cw (pm (by decide) (by decide) (by decide)) (cw (wM (by decide)) dm)))))))
end
end Go.Ink
namespace Go.Proofs.YtomjgmbccamgiaaGreatDoor
open Go.RowKit Go.Ink Go.Proofs.Tryz
attribute [local irreducible] OpY bW
theorem hi_eq(i:HI):EqV prog 10000 285 (hiv i) (hiv i):=
 .struct rfl Zk (EqF.cons (by decide) Zrf Zrf (.int rfl) (EqF.cons (by decide) Zrf Zrf (.int rfl) (EqF.cons (by decide) Zrf Zrf (.int rfl) (EqF.cons (by decide) Zrf Zrf (.int rfl) (EqF.cons (by decide) Zrf Zrf (.int rfl) EqF.nil)))))
theorem GG:prog.eqGuardType prog.depth 285=false:=by kernel_rfl
theorem Ha(i:HI)(w:World):Ctr prog 236 [hiv i] w [] (fun v cs=>v= .tuple #[hiv (eB i).1,.bool (eB i).2]∧cs=[]):=by
 refine bL func236 rfl ntmps236 rfl (Inv.start w) ?_;refine Z_2 ?_;refine ZO fun b1=>?_;refine ZN fun b2=>?_
 refine Z_8 ?_;refine ZN fun b4=>?_
 refine ZM ?_;refine gK ?_;refine ZW ?_ ?_<;>intro hc3
 ·refine Z_6 ?_;refine ZM ?_;refine Z_4 ?_;refine ee (cs':=[]) (.inl rfl) Zu rfl rfl rfl Zh Zrf Zrf ?_;refine⟨?_,rfl⟩;simp only[eB, *,ac,aa]
  try exact rfl
 refine Z_8 ?_;refine ZW ?_ ?_<;>intro hc4
 ·refine cj ⟨fun j=>List.elem j [5,7],[]⟩ Zk ?_;refine ZFe 0 1 ?_;refine ZG 1 ?_;refine ZFe 2 4 ?_;refine ZFe 4 1 ?_;refine j4 3 5 Zk ?_ ?_
  ·refine eN rfl (bM Zrf Zv0) (bR Zh rfl) rfl ?_;refine cE 5 Zk ?_;refine ZQ ?_;refine ZFe 6 4 ?_;refine cE 7 Zk ?_;refine ZQ ?_;refine bO Zk ?_;refine Z_5 ?_;refine ZM ?_;refine Z_4 ?_;refine ee (cs':=[]) (.inl rfl) Zu rfl rfl rfl Zh Zrf Zrf ?_;refine⟨?_,rfl⟩;simp only[eB, *,ac,aa]
   try exact rfl
  refine ZQ ?_;refine ZG 3 ?_;refine ZFe 6 4 ?_;refine cE 7 Zk ?_;refine ZQ ?_;refine bO Zk ?_;refine Z_5 ?_;refine ZM ?_;refine Z_4 ?_;refine ee (cs':=[]) (.inl rfl) Zu rfl rfl rfl Zh Zrf Zrf ?_;refine⟨?_,rfl⟩;simp only[eB, *,ac,aa]
  try exact rfl
 refine Z_8 ?_;refine ZW ?_ ?_<;>intro hc6
 ·refine cj ⟨fun j=>List.elem j [5,7],[]⟩ Zk ?_;refine ZFe 0 1 ?_;refine ZG 1 ?_;refine ZFe 2 2 ?_;refine ZFe 4 1 ?_;refine j4 3 5 Zk ?_ ?_
  ·refine eN rfl (bM Zrf Zv0) (bR Zh rfl) rfl ?_;refine cE 5 Zk ?_;refine ZQ ?_;refine ZFe 6 2 ?_;refine cE 7 Zk ?_;refine ZQ ?_;refine bO Zk ?_;refine Z_5 ?_;refine ZM ?_;refine Z_4 ?_;refine ee (cs':=[]) (.inl rfl) Zu rfl rfl rfl Zh Zrf Zrf ?_;refine⟨?_,rfl⟩;simp only[eB, *,ac,aa]
   try exact rfl
  refine ZQ ?_;refine ZG 3 ?_;refine ZFe 6 2 ?_;refine cE 7 Zk ?_;refine ZQ ?_;refine bO Zk ?_;refine Z_5 ?_;refine ZM ?_;refine Z_4 ?_;refine ee (cs':=[]) (.inl rfl) Zu rfl rfl rfl Zh Zrf Zrf ?_;refine⟨?_,rfl⟩;simp only[eB, *,ac,aa]
  try exact rfl
 refine jW ?_;refine ZW ?_ ?_<;>intro hc8
 ·refine cj ⟨fun j=>List.elem j [7,9,11],[]⟩ Zk ?_;refine ZFe 0 1 ?_;refine ZG 1 ?_;refine ZFe 2 2 ?_;refine ZFe 4 3 ?_;refine ZFe 6 1 ?_;refine wa_3 3 5 7 Zk ?_ ?_ ?_
  ·refine eN rfl (bM Zrf Zv0) (bR Zh rfl) rfl ?_;refine j4 5 7 Zk ?_ ?_
   ·refine eN rfl (bM Zrf Zv0) (bR Zh rfl) rfl ?_;refine cE 7 Zk ?_;refine ZQ ?_;refine ZFe 8 2 ?_;refine cE 9 Zk ?_;refine ZQ ?_;refine ZFe 10 3 ?_;refine cE 11 Zk ?_;refine ZQ ?_;refine bO Zk ?_;refine Z_5 ?_;refine ZM ?_;refine Z_4 ?_;refine ee (cs':=[]) (.inl rfl) Zu rfl rfl rfl Zh Zrf Zrf ?_;refine⟨?_,rfl⟩;simp only[eB, *,ac,aa]
    try exact rfl
   refine ZQ ?_;refine ZFe 8 2 ?_;refine j4 5 9 Zk ?_ ?_
   ·refine eN rfl (bM Zrf Zv0) (bR Zh rfl) rfl ?_;refine cE 9 Zk ?_;refine ZQ ?_;refine ZFe 10 3 ?_;refine cE 11 Zk ?_;refine ZQ ?_;refine bO Zk ?_;refine Z_5 ?_;refine ZM ?_;refine Z_4 ?_;refine ee (cs':=[]) (.inl rfl) Zu rfl rfl rfl Zh Zrf Zrf ?_;refine⟨?_,rfl⟩;simp only[eB, *,ac,aa]
    try exact rfl
   refine ZQ ?_;refine ZG 5 ?_;refine ZFe 10 3 ?_;refine cE 11 Zk ?_;refine ZQ ?_;refine bO Zk ?_;refine Z_5 ?_;refine ZM ?_;refine Z_4 ?_;refine ee (cs':=[]) (.inl rfl) Zu rfl rfl rfl Zh Zrf Zrf ?_;refine⟨?_,rfl⟩;simp only[eB, *,ac,aa]
   try exact rfl
  ·refine eN rfl (bM Zrf Zv0) (bR Zh rfl) rfl ?_;refine j4 3 7 Zk ?_ ?_
   ·refine eN rfl (bM Zrf Zv0) (bR Zh rfl) rfl ?_;refine cE 7 Zk ?_;refine ZQ ?_;refine ZFe 8 2 ?_;refine cE 9 Zk ?_;refine ZQ ?_;refine ZFe 10 3 ?_;refine cE 11 Zk ?_;refine ZQ ?_;refine bO Zk ?_;refine Z_5 ?_;refine ZM ?_;refine Z_4 ?_;refine ee (cs':=[]) (.inl rfl) Zu rfl rfl rfl Zh Zrf Zrf ?_;refine⟨?_,rfl⟩;simp only[eB, *,ac,aa]
    try exact rfl
   refine ZQ ?_;refine ZG 3 ?_;refine ZFe 8 2 ?_;refine cE 9 Zk ?_;refine ZQ ?_;refine ZFe 10 3 ?_;refine cE 11 Zk ?_;refine ZQ ?_;refine bO Zk ?_;refine Z_5 ?_;refine ZM ?_;refine Z_4 ?_;refine ee (cs':=[]) (.inl rfl) Zu rfl rfl rfl Zh Zrf Zrf ?_;refine⟨?_,rfl⟩;simp only[eB, *,ac,aa]
   try exact rfl
  refine ZQ ?_;refine ZG 3 ?_;refine ZFe 8 2 ?_;refine j4 5 9 Zk ?_ ?_
  ·refine eN rfl (bM Zrf Zv0) (bR Zh rfl) rfl ?_;refine cE 9 Zk ?_;refine ZQ ?_;refine ZFe 10 3 ?_;refine cE 11 Zk ?_;refine ZQ ?_;refine bO Zk ?_;refine Z_5 ?_;refine ZM ?_;refine Z_4 ?_;refine ee (cs':=[]) (.inl rfl) Zu rfl rfl rfl Zh Zrf Zrf ?_;refine⟨?_,rfl⟩;simp only[eB, *,ac,aa]
   try exact rfl
  refine ZQ ?_;refine ZG 5 ?_;refine ZFe 10 3 ?_;refine cE 11 Zk ?_;refine ZQ ?_;refine bO Zk ?_;refine Z_5 ?_;refine ZM ?_;refine Z_4 ?_;refine ee (cs':=[]) (.inl rfl) Zu rfl rfl rfl Zh Zrf Zrf ?_;refine⟨?_,rfl⟩;simp only[eB, *,ac,aa]
  try exact rfl
 refine Z_8 ?_;refine ZW ?_ ?_<;>intro hc10
 ·refine cj ⟨fun j=>List.elem j [7,9,11],[]⟩ Zk ?_;refine ZFe 0 1 ?_;refine ZG 1 ?_;refine ZFe 2 2 ?_;refine ZFe 4 4 ?_;refine ZFe 6 1 ?_;refine wa_3 3 5 7 Zk ?_ ?_ ?_
  ·refine eN rfl (bM Zrf Zv0) (bR Zh rfl) rfl ?_;refine j4 5 7 Zk ?_ ?_
   ·refine eN rfl (bM Zrf Zv0) (bR Zh rfl) rfl ?_;refine cE 7 Zk ?_;refine ZQ ?_;refine ZFe 8 2 ?_;refine cE 9 Zk ?_;refine ZQ ?_;refine ZFe 10 4 ?_;refine cE 11 Zk ?_;refine ZQ ?_;refine bO Zk ?_;refine Z_5 ?_;refine ZM ?_;refine Z_4 ?_;refine ee (cs':=[]) (.inl rfl) Zu rfl rfl rfl Zh Zrf Zrf ?_;refine⟨?_,rfl⟩;simp only[eB, *,ac,aa]
    try exact rfl
   refine ZQ ?_;refine ZFe 8 2 ?_;refine j4 5 9 Zk ?_ ?_
   ·refine eN rfl (bM Zrf Zv0) (bR Zh rfl) rfl ?_;refine cE 9 Zk ?_;refine ZQ ?_;refine ZFe 10 4 ?_;refine cE 11 Zk ?_;refine ZQ ?_;refine bO Zk ?_;refine Z_5 ?_;refine ZM ?_;refine Z_4 ?_;refine ee (cs':=[]) (.inl rfl) Zu rfl rfl rfl Zh Zrf Zrf ?_;refine⟨?_,rfl⟩;simp only[eB, *,ac,aa]
    try exact rfl
   refine ZQ ?_;refine ZG 5 ?_;refine ZFe 10 4 ?_;refine cE 11 Zk ?_;refine ZQ ?_;refine bO Zk ?_;refine Z_5 ?_;refine ZM ?_;refine Z_4 ?_;refine ee (cs':=[]) (.inl rfl) Zu rfl rfl rfl Zh Zrf Zrf ?_;refine⟨?_,rfl⟩;simp only[eB, *,ac,aa]
   try exact rfl
  ·refine eN rfl (bM Zrf Zv0) (bR Zh rfl) rfl ?_;refine j4 3 7 Zk ?_ ?_
   ·refine eN rfl (bM Zrf Zv0) (bR Zh rfl) rfl ?_;refine cE 7 Zk ?_;refine ZQ ?_;refine ZFe 8 2 ?_;refine cE 9 Zk ?_;refine ZQ ?_;refine ZFe 10 4 ?_;refine cE 11 Zk ?_;refine ZQ ?_;refine bO Zk ?_;refine Z_5 ?_;refine ZM ?_;refine Z_4 ?_;refine ee (cs':=[]) (.inl rfl) Zu rfl rfl rfl Zh Zrf Zrf ?_;refine⟨?_,rfl⟩;simp only[eB, *,ac,aa]
    try exact rfl
   refine ZQ ?_;refine ZG 3 ?_;refine ZFe 8 2 ?_;refine cE 9 Zk ?_;refine ZQ ?_;refine ZFe 10 4 ?_;refine cE 11 Zk ?_;refine ZQ ?_;refine bO Zk ?_;refine Z_5 ?_;refine ZM ?_;refine Z_4 ?_;refine ee (cs':=[]) (.inl rfl) Zu rfl rfl rfl Zh Zrf Zrf ?_;refine⟨?_,rfl⟩;simp only[eB, *,ac,aa]
   try exact rfl
  refine ZQ ?_;refine ZG 3 ?_;refine ZFe 8 2 ?_;refine j4 5 9 Zk ?_ ?_
  ·refine eN rfl (bM Zrf Zv0) (bR Zh rfl) rfl ?_;refine cE 9 Zk ?_;refine ZQ ?_;refine ZFe 10 4 ?_;refine cE 11 Zk ?_;refine ZQ ?_;refine bO Zk ?_;refine Z_5 ?_;refine ZM ?_;refine Z_4 ?_;refine ee (cs':=[]) (.inl rfl) Zu rfl rfl rfl Zh Zrf Zrf ?_;refine⟨?_,rfl⟩;simp only[eB, *,ac,aa]
   try exact rfl
  refine ZQ ?_;refine ZG 5 ?_;refine ZFe 10 4 ?_;refine cE 11 Zk ?_;refine ZQ ?_;refine bO Zk ?_;refine Z_5 ?_;refine ZM ?_;refine Z_4 ?_;refine ee (cs':=[]) (.inl rfl) Zu rfl rfl rfl Zh Zrf Zrf ?_;refine⟨?_,rfl⟩;simp only[eB, *,ac,aa]
  try exact rfl
 refine Z_8 ?_;refine ZW ?_ ?_<;>intro hc12
 ·refine cj ⟨fun j=>List.elem j [7,9,11],[]⟩ Zk ?_;refine ZFe 0 2 ?_;refine ZG 1 ?_;refine ZFe 2 3 ?_;refine ZFe 4 4 ?_;refine ZFe 6 2 ?_;refine wa_3 3 5 7 Zk ?_ ?_ ?_
  ·refine eN rfl (bM Zrf Zv0) (bR Zh rfl) rfl ?_;refine j4 5 7 Zk ?_ ?_
   ·refine eN rfl (bM Zrf Zv0) (bR Zh rfl) rfl ?_;refine cE 7 Zk ?_;refine ZQ ?_;refine ZFe 8 3 ?_;refine cE 9 Zk ?_;refine ZQ ?_;refine ZFe 10 4 ?_;refine cE 11 Zk ?_;refine ZQ ?_;refine bO Zk ?_;refine Z_5 ?_;refine ZM ?_;refine Z_4 ?_;refine ee (cs':=[]) (.inl rfl) Zu rfl rfl rfl Zh Zrf Zrf ?_;refine⟨?_,rfl⟩;simp only[eB, *,ac,aa]
    try exact rfl
   refine ZQ ?_;refine ZFe 8 3 ?_;refine j4 5 9 Zk ?_ ?_
   ·refine eN rfl (bM Zrf Zv0) (bR Zh rfl) rfl ?_;refine cE 9 Zk ?_;refine ZQ ?_;refine ZFe 10 4 ?_;refine cE 11 Zk ?_;refine ZQ ?_;refine bO Zk ?_;refine Z_5 ?_;refine ZM ?_;refine Z_4 ?_;refine ee (cs':=[]) (.inl rfl) Zu rfl rfl rfl Zh Zrf Zrf ?_;refine⟨?_,rfl⟩;simp only[eB, *,ac,aa]
    try exact rfl
   refine ZQ ?_;refine ZG 5 ?_;refine ZFe 10 4 ?_;refine cE 11 Zk ?_;refine ZQ ?_;refine bO Zk ?_;refine Z_5 ?_;refine ZM ?_;refine Z_4 ?_;refine ee (cs':=[]) (.inl rfl) Zu rfl rfl rfl Zh Zrf Zrf ?_;refine⟨?_,rfl⟩;simp only[eB, *,ac,aa]
   try exact rfl
  ·refine eN rfl (bM Zrf Zv0) (bR Zh rfl) rfl ?_;refine j4 3 7 Zk ?_ ?_
   ·refine eN rfl (bM Zrf Zv0) (bR Zh rfl) rfl ?_;refine cE 7 Zk ?_;refine ZQ ?_;refine ZFe 8 3 ?_;refine cE 9 Zk ?_;refine ZQ ?_;refine ZFe 10 4 ?_;refine cE 11 Zk ?_;refine ZQ ?_;refine bO Zk ?_;refine Z_5 ?_;refine ZM ?_;refine Z_4 ?_;refine ee (cs':=[]) (.inl rfl) Zu rfl rfl rfl Zh Zrf Zrf ?_;refine⟨?_,rfl⟩;simp only[eB, *,ac,aa]
    try exact rfl
   refine ZQ ?_;refine ZG 3 ?_;refine ZFe 8 3 ?_;refine cE 9 Zk ?_;refine ZQ ?_;refine ZFe 10 4 ?_;refine cE 11 Zk ?_;refine ZQ ?_;refine bO Zk ?_;refine Z_5 ?_;refine ZM ?_;refine Z_4 ?_;refine ee (cs':=[]) (.inl rfl) Zu rfl rfl rfl Zh Zrf Zrf ?_;refine⟨?_,rfl⟩;simp only[eB, *,ac,aa]
   try exact rfl
  refine ZQ ?_;refine ZG 3 ?_;refine ZFe 8 3 ?_;refine j4 5 9 Zk ?_ ?_
  ·refine eN rfl (bM Zrf Zv0) (bR Zh rfl) rfl ?_;refine cE 9 Zk ?_;refine ZQ ?_;refine ZFe 10 4 ?_;refine cE 11 Zk ?_;refine ZQ ?_;refine bO Zk ?_;refine Z_5 ?_;refine ZM ?_;refine Z_4 ?_;refine ee (cs':=[]) (.inl rfl) Zu rfl rfl rfl Zh Zrf Zrf ?_;refine⟨?_,rfl⟩;simp only[eB, *,ac,aa]
   try exact rfl
  refine ZQ ?_;refine ZG 5 ?_;refine ZFe 10 4 ?_;refine cE 11 Zk ?_;refine ZQ ?_;refine bO Zk ?_;refine Z_5 ?_;refine ZM ?_;refine Z_4 ?_;refine ee (cs':=[]) (.inl rfl) Zu rfl rfl rfl Zh Zrf Zrf ?_;refine⟨?_,rfl⟩;simp only[eB, *,ac,aa]
  try exact rfl
 refine jW ?_;refine ZW ?_ ?_<;>intro hc14
 ·refine cj ⟨fun j=>List.elem j [5,7],[]⟩ Zk ?_;refine ZFe 0 2 ?_;refine ZG 1 ?_;refine ZFe 2 4 ?_;refine ZFe 4 2 ?_;refine j4 3 5 Zk ?_ ?_
  ·refine eN rfl (bM Zrf Zv0) (bR Zh rfl) rfl ?_;refine cE 5 Zk ?_;refine ZQ ?_;refine ZFe 6 4 ?_;refine cE 7 Zk ?_;refine ZQ ?_;refine bO Zk ?_;refine Z_5 ?_;refine ZM ?_;refine Z_4 ?_;refine ee (cs':=[]) (.inl rfl) Zu rfl rfl rfl Zh Zrf Zrf ?_;refine⟨?_,rfl⟩;simp only[eB, *,ac,aa]
   try exact rfl
  refine ZQ ?_;refine ZG 3 ?_;refine ZFe 6 4 ?_;refine cE 7 Zk ?_;refine ZQ ?_;refine bO Zk ?_;refine Z_5 ?_;refine ZM ?_;refine Z_4 ?_;refine ee (cs':=[]) (.inl rfl) Zu rfl rfl rfl Zh Zrf Zrf ?_;refine⟨?_,rfl⟩;simp only[eB, *,ac,aa]
  try exact rfl
 refine jW ?_;refine ZW ?_ ?_<;>intro hc16
 ·refine Z_4 ?_;refine ZL ?_;refine Z_6 ?_;refine ZM ?_;refine Z_4 ?_;refine ee (cs':=[]) (.inl rfl) Zu rfl rfl rfl Zh Zrf Zrf ?_;refine⟨?_,rfl⟩;simp only[eB, *,ac,aa]
  try exact rfl
 refine Z_3 ?_;refine ZM ?_;refine Z_6 ?_;refine ee (cs':=[]) (.inl rfl) Zu rfl rfl rfl Zh Zrf Zrf ?_;refine⟨?_,rfl⟩;simp only[eB, *,ac,aa]
 try exact rfl
theorem yi(n:Int)(w:World):Ctr prog 237 [.int .i64 n] w [] (fun v cs=>v= .bool (decide (0≤n)&&decide (n<16))∧cs=[]):=by
 refine bL func237 rfl ntmps237 rfl (Inv.start w) ?_;refine vo ?_;refine Zra ?_;exact⟨rfl,rfl⟩
theorem wG(i:HI)(h:i.I9)(w:World):Ctr prog 208 [hiv i] w [] (fun v cs=>v= .bool true∧cs=[]):=by
 have HA:=Ha i;rw[h.asked]at HA;have hreg:∀n:Int,0≤n∧n≤15→(decide (0≤n)&&decide (n<16))=true:=fun n hn=>by rw[aG hn.1,aG (show n<16 by omega)];rfl
 have e1:=hreg _ h.rd;have e2:=hreg _ h.ra;have e3:=hreg _ h.rb;have R1:=yi i.rd;have R2:=yi i.ra;have R3:=yi i.rb;rw[e1]at R1;rw[e2]at R2;rw[e3]at R3;refine bL func208 rfl ntmps208 rfl (Inv.start w) ?_;refine Z_2 ?_;refine ZO fun b1=>?_;refine Z_6 ?_;refine ZSe (fun w hi=>HA w) ?_;refine Z_3 ?_;refine ZN fun b3=>?_
 refine ZM ?_;refine Z_7 ?_;refine iO (bP rfl rfl) Zh Zrf Zrf (Zv rfl) rfl ?_;refine iO (bP rfl rfl) Zh Zrf Zrf (Zv rfl) rfl ?_;refine Zyy rfl rfl (y_eqlT GG (hi_eq i) (dc rfl) (dc rfl)) ?_;refine Z_4 ?_;refine ku (bP rfl rfl) rfl (eG rfl (fun _ _=>rfl) (fun w hi=>R1 w)) rfl ?_;rintro _ _ ⟨_,⟨rfl,rfl⟩,rfl⟩;refine Z_4 ?_;refine ku (bP rfl rfl) rfl (eG rfl (fun _ _=>rfl) (fun w hi=>R2 w)) rfl ?_;rintro _ _ ⟨_,⟨rfl,rfl⟩,rfl⟩;refine Z_4 ?_;refine ku (bP rfl rfl) rfl (eG rfl (fun _ _=>rfl) (fun w hi=>R3 w)) rfl ?_;rintro _ _ ⟨_,⟨rfl,rfl⟩,rfl⟩;refine Z_5 ?_;refine Zra ?_;exact⟨rfl,rfl⟩
abbrev hiC(A:Option Addr)(c:Nat)(l:List HI):bJ:=slv 285 5 A l.length c (l.flatMap HI.cells)
theorem hi_snoc{A:Option Addr}{c:Nat}{l:List HI}{i:HI}:slv 285 5 A (l.length+1) c (l.flatMap HI.cells++i.cells)=hiC A c (l++[i]):=by
 show _=slv _ _ _ _ _ _;rw[ae,List.flatMap_append];simp
theorem zp(A:Option Addr)(c:Nat)(l:List HI)(hg:ge l)(hl:l.length≤100000)(w:World)(h:RdV w 5 A l.length c (l.flatMap HI.cells)):
  Ctr prog 154 [.slice A l.length c] w [] (fun v cs=>∃A' c',v= .tuple #[.slice A' (cO l).length c',.int .i64 0]∧cs=[sl .u8 5 A' (cO l).length c' (cO l)]):=by
 refine bL func154 rfl ntmps154 rfl (Inv.start w) ?_;refine ic ?_;refine dB 5 1 ?_;refine Z_6 ?_;refine cJ (fun q:Nat×Option Addr×Nat=>[(4,.slice q.2.1 (cO (l.take q.1)).length q.2.2),(7,.slice A l.length c),(8,.int .i64 l.length),(9,.int .i64 (q.1:Int))]) (fun q=>[sl .u8 5 q.2.1 (cO (l.take q.1)).length q.2.2 (cO (l.take q.1))]) (fun q=>q.1≤l.length) (fun q=>l.length - q.1) (⟨0,none,0⟩) ?_ ?_ ?_ ?_
 ·exact aw _
 ·exact Zwk
 ·exact Zu
 rintro⟨k,A1,c1⟩ hk;dsimp only at hk⊢;refine Z_6 ?_;refine ZW ?_ ?_<;>intro hc3
 ·simp only[ap]at hc3;obtain⟨ad,rfl⟩:=h.some_ (by omega);obtain⟨i,hx⟩:∃i,l[k]? =some i:=⟨_,ak (show k<l.length by omega)⟩;have hgi:=hg i (aK hx);have htk:l.take (k+1)=l.take k++[i]:=(by rw[List.take_add_one,hx];rfl);have hlk:(cO (l.take k)).length≤800000:=(by rw[iW,az];omega);obtain⟨o1,o2⟩:=hgi.op;obtain⟨a1,a2⟩:=hgi.rd;obtain⟨p1,p2⟩:=hgi.ra;obtain⟨q1,q2⟩:=hgi.rb;obtain⟨m1,m2⟩:=hgi.imm;have HR:=wG i hgi;have hbe:qh i=[i.op,i.rd,i.ra,i.rb,i.imm%256,i.imm/256%256,i.imm/65536%256,i.imm/16777216%256]:=rfl;have hbs:cO (l.take (k+1))=cO (l.take k)++qh i:=(by rw[htk,yj]);have hcl:i.cells=[.int .i64 i.op,.int .i64 i.rd,.int .i64 i.ra,.int .i64 i.rb,.int .u32 i.imm]:=rfl;obtain⟨op,rd,ra,rb,im⟩:=i;dsimp only at o1 o2 a1 a2 p1 p2 q1 q2 m1 m2 hbe hcl;refine Z_6 ?_;refine Zy (dk (j:=k) rfl Zrf (Zv rfl) (Zv rfl) (fun _=>by omega) (fun _=>by omega)) ?_;refine dU (cC (vs:=[.int .i64 op,.int .i64 rd,.int .i64 ra,.int .i64 rb,.int .u32 im]) Zrf Zrf Zv0) (fC h (fun j v hj=>fF (f:=HI.cells) Zrf (i:=j) hx hj)) rfl ?_;refine ZN fun b6=>?_
  refine ZM ?_;refine Z_6 ?_;refine ZSe (fun w hi=>HR w) ?_;refine Z_3 ?_;refine bY rfl (rfl) ?_;refine Z_6 ?_;refine Zy (cu rfl rfl (Zv rfl) (by first|exact IntWalk.u8_in _ ⟨by omega,by omega⟩|exact rfl)) ?_;refine Z_2 ?_;refine Zy (cu rfl rfl (Zv rfl) (by first|exact IntWalk.u8_in _ ⟨by omega,by omega⟩|exact rfl)) ?_;refine Z_2 ?_;refine Zy (cu rfl rfl (Zv rfl) (by first|exact IntWalk.u8_in _ ⟨by omega,by omega⟩|exact rfl)) ?_;refine Z_2 ?_;refine Zy (cu rfl rfl (Zv rfl) (by first|exact IntWalk.u8_in _ ⟨by omega,by omega⟩|exact rfl)) ?_;refine Z_2 ?_;refine Zy (cu rfl rfl (Zv rfl) (show IntKind.u8.wrap im=im%256 from by rw[IntKind.wrap_u8])) ?_;refine Z_2 ?_;refine Zy (jY (Zv rfl) (Zv rfl) (by omega) (show _=im/256 from by show im.fdiv 256=_;rw[Int.fdiv_eq_ediv_of_nonneg _ (by decide)])) ?_;refine Zy (cu rfl rfl (Zv rfl) (show IntKind.u8.wrap (im/256)=im/256%256 from by rw[IntKind.wrap_u8])) ?_;refine Z_2 ?_;refine Zy (jY (Zv rfl) (Zv rfl) (by omega) (show _=im/65536 from by show im.fdiv 65536=_;rw[Int.fdiv_eq_ediv_of_nonneg _ (by decide)])) ?_;refine Zy (cu rfl rfl (Zv rfl) (show IntKind.u8.wrap (im/65536)=im/65536%256 from by rw[IntKind.wrap_u8])) ?_;refine Z_2 ?_;refine Zy (jY (Zv rfl) (Zv rfl) (by omega) (show _=im/16777216 from by show im.fdiv 16777216=_;rw[Int.fdiv_eq_ediv_of_nonneg _ (by decide)])) ?_;refine Zy (cu rfl rfl (Zv rfl) (show IntKind.u8.wrap (im/16777216)=im/16777216%256 from by rw[IntKind.wrap_u8])) ?_;refine dM (cm rfl rfl Zrf Zrf rfl rfl) rfl ?_;rintro _ _ ⟨b44,rfl,rfl⟩;refine dM (cM (e:=5) (sz:=1) (bytes:=1) rfl rfl Za rfl rfl (fun w hi=>hi.rd (show Has _ (slv 5 1 (some ⟨b44,0,none⟩) 8 8 (ints .u8 (qh ⟨op,rd,ra,rb,im⟩)))from Zh)) cY (by simp only[maxLen];omega) (by omega)) rfl ?_;rintro _ _ ⟨A2,c2,rfl,rfl⟩;rw[cD,←hbs,show(cO (l.take k)).length+8=(cO (l.take (k+1))).length from by rw[hbs,ae];rfl];refine Z_5 ?_;refine Zy (cF Zv0 Zv0 Zl) ?_;refine Z_2 ?_;refine cz ((⟨k+1,A2,c2⟩:Nat×Option Addr×Nat)) ?_ ?_ ?_
  ·exact⟨by omega,by omega⟩
  ·exact Zwk
  exact Zj
 simp only[aj]at hc3;obtain rfl:k=l.length:=by omega
 rw[bA];refine jW ?_;refine fw (cs':=[slv _ _ _ _ _ _]) (.inl rfl) Zu rfl rfl rfl ?_;exact⟨_,_,rfl,rfl⟩
end Go.Proofs.YtomjgmbccamgiaaGreatDoor
namespace Go.Ink
open Go.RowKit
def r64(l:List Int):Prop:=∀x,x∈l→0≤x∧x≤18446744073709551615
theorem qx{l:List Int}(h:r64 l)(n:Nat):0≤l.getD n 0∧l.getD n 0≤18446744073709551615:=by
 rw[ax];by_cases hn:n<l.length
 ·rw[ak hn];exact h _ (List.getElem_mem hn)
 rw[List.getElem?_eq_none (by omega)];exact⟨by decide,by decide⟩
structure HM.ok(m:HM):Prop where
 rl:m.IF.length=16
 wl:m.words.length=256
 r:r64 m.IF
 w:wds m.words
 pc:0≤m.pc
theorem x0{l:List Int}{n:Nat}{v x:Int}(h:x∈l.set n v):x∈l∨x=v:=List.mem_or_eq_of_mem_set h
theorem AN{op a b:Int}(ha:0≤a∧a≤18446744073709551615)(hb:0≤b∧b≤18446744073709551615):0≤eT op a b∧eT op a b≤18446744073709551615:=by
 have hw:∀z:Int,0≤IntKind.u64.wrap z∧IntKind.u64.wrap z≤18446744073709551615:=fun z=>by rw[aW];omega
 have ht:∀c:Bool,0≤b2i c∧b2i c≤18446744073709551615:=fun c=>by cases c<;>decide
 obtain⟨x,rfl⟩:∃x:Nat,a=x:=ar ha.1;obtain⟨y,rfl⟩:∃y:Nat,b=y:=ar hb.1;have hx:x<18446744073709551616:=by omega
 have hy:y<18446744073709551616:=by omega
 have h1:x&&&y≤x:=Nat.and_le_left;have h2:x|||y<2^64:=Nat.or_lt_two_pow hx hy
 have h3:x^^^y<2^64:=Nat.xor_lt_two_pow hx hy;have bp:∀{c:Bool} {u v:Int},(0≤u∧u≤18446744073709551615)→(0≤v∧v≤18446744073709551615)→0≤(bif c then u else v)∧(bif c then u else v)≤18446744073709551615:=fun{c u v} h k=>by cases c;exact k;exact h
 have hsh:0≤(x:Int).fdiv (2^(min ((y:Int)).toNat IntKind.u64.bits))∧(x:Int).fdiv (2^(min ((y:Int)).toNat IntKind.u64.bits))≤18446744073709551615:=by
  rw[aS,Int.fdiv_eq_ediv_of_nonneg _ (by exact Int.le_of_lt (Int.pow_pos (by decide)))];have e:((x:Int)/2^(min y IntKind.u64.bits))=((x/2^(min y IntKind.u64.bits):Nat):Int):=by simp
  have h4:x/2^(min y IntKind.u64.bits)≤x:=Nat.div_le_self _ _;rw[e];obtain⟨q,hq⟩:=Zgn (x/2^(min y IntKind.u64.bits));rw[hq]at h4⊢;omega
 unfold eT;exact bp ha (bp (hw _) (bp (hw _) (bp (by rw[EJ hx hy];omega) (bp (by rw[or64 hx hy];omega) (bp (by rw[zY hx hy];omega) (bp (hw _) (bp hsh (bp (hw _) (bp (bp ⟨by omega,by omega⟩ (hw _)) (bp (ht _) (ht _)))))))))))
theorem hdo_ok{i:HI}{m:HM}(hi:i.I9)(h:m.ok):(hdo i m).2.ok:=by
 have hset:∀(n:Nat) (v:Int),(0≤v∧v≤18446744073709551615)→HM.ok ⟨m.IF.set n v,m.words,m.pc+1⟩:=fun n v hv=>
  ⟨by show(m.IF.set n v).length=16;rw[aL,h.rl],h.wl,fun x hx=>by rcases x0 hx with q|q;exact h.r x q;rw[q];exact hv,h.w,by have:=h.pc;show 0≤m.pc+1;omega⟩
 have hnx:HM.ok ⟨m.IF,m.words,m.pc+1⟩:=⟨h.rl,h.wl,h.r,h.w,by have:=h.pc;show 0≤m.pc+1;omega⟩;obtain⟨i1,i2⟩:=hi.imm;unfold hdo;cases i.op==0 with
 |true=>exact hnx
 |false=>cases i.op==1 with
  |true=>exact hset _ _ ⟨i1,by omega⟩
  |false=>cases i.op==14||i.op==15 with
   |true=>
    cases decide ((m.words.length:Int)≤oe m.IF i)with
    |true=>exact h
    |false=>cases i.op==14 with
     |true=>exact hset _ _ (by have:=iz h.w (oe m.IF i).toNat;omega)
     |false=>exact⟨h.rl,by show(m.words.set _ _).length=256;rw[aL,h.wl],h.r,fun x hx=>by rcases x0 hx with q|q;exact h.w x q;rw[q];exact BC _,by have:=h.pc;show 0≤m.pc+1;omega⟩
   |false=>cases i.op==16||i.op==17 with
    |true=>
     refine⟨h.rl,h.wl,h.r,h.w,?_⟩;show 0≤(bif(rg m.IF i.ra==0)==(i.op==16)then i.imm else m.pc+1);have:=h.pc;cases(rg m.IF i.ra==0)==(i.op==16)with
     |true=>exact i1
     |false=>show 0≤m.pc+1;omega
    |false=>cases i.op==18 with
     |true=>exact⟨h.rl,h.wl,h.r,h.w,i1⟩
     |false=>cases i.op==19 with
      |true=>exact h
      |false=>exact hset _ _ (AN (qx h.r _) (qx h.r _))
theorem zn{C:List HI}{m:HM}(hC:ge C)(h:m.ok):(Iu C m).2.ok:=by
 unfold Iu;cases hd:decide (m.pc<0)||decide ((C.length:Int)≤m.pc)with
 |true=>exact h
 |false=>
  simp only[bl,aj]at hd;have hlt:m.pc.toNat<C.length:=by omega
  refine hdo_ok (hC _ ?_) h;rw[ax,ak hlt];exact List.getElem_mem hlt
abbrev iV(R:List Int)(bw:Nat)(Ac:Option Addr)(n cc:Nat)(pc:Int):List Value:=ints .u64 R++[.slice (some ⟨bw,0,none⟩) 256 256,.slice Ac n cc,.int .i64 pc]
section
variable {R:List Int} {bw n cc:Nat} {Ac:Option Addr} {pc:Int}
theorem HV(h:R.length=16):(iV R bw Ac n cc pc).length=19:=by simp[ints,h]
theorem hm_at(h:R.length=16)(k:Nat):(iV R bw Ac n cc pc)[16+k]? =[Value.slice (some ⟨bw,0,none⟩) 256 256,.slice Ac n cc,.int .i64 pc][k]? :=by
 rw[bG (by simp[ints,h]),cT,h];congr 1;omega
theorem DL(h:R.length=16):(iV R bw Ac n cc pc)[16]? =some (.slice (some ⟨bw,0,none⟩) 256 256):=hm_at h 0
theorem hm_c(h:R.length=16):(iV R bw Ac n cc pc)[17]? =some (.slice Ac n cc):=hm_at h 1
theorem hm_p(h:R.length=16):(iV R bw Ac n cc pc)[18]? =some (.int .i64 pc):=hm_at h 2
theorem hm_r(h:R.length=16){k:Nat}(hk:k<16):(iV R bw Ac n cc pc)[k]? =some (.int .u64 (R.getD k 0)):=by
 rw[bE (by simp[ints,h];exact hk),mK (by omega),ax,ak (by omega)];rfl
theorem uZ(h:R.length=16){k:Nat}(hk:k<16)(v:Int):(iV R bw Ac n cc pc).set k (.int .u64 v)=iV (R.set k v) bw Ac n cc pc:=by
 show(ints .u64 R++_).set k _=ints .u64 (R.set k v)++_;rw[List.set_append_left _ _ (by simp[ints,h];exact hk)];simp[ints,List.map_set]
theorem iU(h:R.length=16)(p:Int):(iV R bw Ac n cc pc).set 18 (.int .i64 p)=iV R bw Ac n cc p:=by
 show(ints .u64 R++_).set 18 _=_;rw[List.set_append_right _ _ (by simp[ints,h]),cT,h];rfl
theorem hm_setc(h:R.length=16)(A:Option Addr)(m c:Nat):(iV R bw Ac n cc pc).set 17 (.slice A m c)=iV R bw A m c pc:=by
 show(ints .u64 R++_).set 17 _=_;rw[List.set_append_right _ _ (by simp[ints,h]),cT,h];rfl
end
end Go.Ink
namespace Go.Proofs.YtomjgmbccamgiaaGreatDoor
open Go.RowKit Go.Ink Go.Proofs.Tryz
attribute [local irreducible] OpY bW
theorem Bf(A:Option Addr)(c:Nat)(i:HI)(hg:i.I9)(w:World)(h:Rd w .u8 A 8 c (qh i)):
  Ctr prog 209 [.slice A 8 c] w [] (fun v cs=>v= .tuple #[hiv i,.int .i64 0]∧cs=[]):=by
 obtain⟨ad,rfl⟩:=h.some_ (by decide);have HR:=wG i hg;obtain⟨o1,o2⟩:=hg.op;obtain⟨a1,a2⟩:=hg.rd;obtain⟨p1,p2⟩:=hg.ra;obtain⟨q1,q2⟩:=hg.rb;obtain⟨m1,m2⟩:=hg.imm;obtain⟨op,rd,ra,rb,im⟩:=i;dsimp only at o1 o2 a1 a2 p1 p2 q1 q2 m1 m2;obtain⟨m,rfl⟩:∃m:Nat,im=m:=ar m1;have hib:=GA (show m<4294967296 by omega);have hbe:qh ⟨op,rd,ra,rb,(m:Int)⟩=[op,rd,ra,rb,((m%256:Nat):Int),((m/256%256:Nat):Int),((m/65536%256:Nat):Int),((m/16777216%256:Nat):Int)]:=rfl;rw[hbe]at h;refine bL func209 rfl ntmps209 rfl (Inv.start w) ?_;refine Z_2 ?_;refine ZN fun b2=>?_;refine eo ?_;refine bY rfl (rfl) ?_;refine Z_3 ?_;refine cj ⟨fun j=>List.elem j [40],[]⟩ Zk ?_;refine ZE 0 ?_;refine cR 1 rfl Zk Zk Zk (dk (j:=0) rfl Zrf (Zv rfl) (Zv rfl) (fun _=>by omega) (fun _=>by omega)) rfl ?_;refine eQ 2 rfl Zk Zk Zk Zk (bM Zrf Zv0) (fe h (df (j:=0) rfl)) rfl ?_;refine cR 3 rfl Zk Zk Zk (cu rfl rfl Zv0 Zl) rfl ?_;refine ZE 4 ?_;refine cR 5 rfl Zk Zk Zk (dk (j:=1) rfl Zrf (Zv rfl) (Zv rfl) (fun _=>by omega) (fun _=>by omega)) rfl ?_;refine eQ 6 rfl Zk Zk Zk Zk (bM Zrf Zv0) (fe h (df (j:=1) rfl)) rfl ?_;refine cR 7 rfl Zk Zk Zk (cu rfl rfl Zv0 Zl) rfl ?_;refine ZE 8 ?_;refine cR 9 rfl Zk Zk Zk (dk (j:=2) rfl Zrf (Zv rfl) (Zv rfl) (fun _=>by omega) (fun _=>by omega)) rfl ?_;refine eQ 10 rfl Zk Zk Zk Zk (bM Zrf Zv0) (fe h (df (j:=2) rfl)) rfl ?_;refine cR 11 rfl Zk Zk Zk (cu rfl rfl Zv0 Zl) rfl ?_;refine ZE 12 ?_;refine cR 13 rfl Zk Zk Zk (dk (j:=3) rfl Zrf (Zv rfl) (Zv rfl) (fun _=>by omega) (fun _=>by omega)) rfl ?_;refine eQ 14 rfl Zk Zk Zk Zk (bM Zrf Zv0) (fe h (df (j:=3) rfl)) rfl ?_;refine cR 15 rfl Zk Zk Zk (cu rfl rfl Zv0 Zl) rfl ?_;refine ZE 16 ?_;refine cR 17 rfl Zk Zk Zk (dk (j:=4) rfl Zrf (Zv rfl) (Zv rfl) (fun _=>by omega) (fun _=>by omega)) rfl ?_;refine eQ 18 rfl Zk Zk Zk Zk (bM Zrf Zv0) (fe h (df (j:=4) rfl)) rfl ?_;refine cR 19 rfl Zk Zk Zk (cu rfl rfl (Zv rfl) (by first|exact IntWalk.u32_in _ ⟨by omega,by omega⟩|exact rfl)) rfl ?_;refine ZE 20 ?_;refine cR 21 rfl Zk Zk Zk (dk (j:=5) rfl Zrf (Zv rfl) (Zv rfl) (fun _=>by omega) (fun _=>by omega)) rfl ?_;refine eQ 22 rfl Zk Zk Zk Zk (bM Zrf Zv0) (fe h (df (j:=5) rfl)) rfl ?_;refine cR 23 rfl Zk Zk Zk (cu rfl rfl (Zv rfl) (by first|exact IntWalk.u32_in _ ⟨by omega,by omega⟩|exact rfl)) rfl ?_;refine cR 24 rfl Zk Zk Zk (ug (Zv rfl) (Zv rfl) (by omega) rfl) rfl ?_;refine ZE 25 ?_;refine ZE 26 ?_;refine cR 27 rfl Zk Zk Zk (dk (j:=6) rfl Zrf (Zv rfl) (Zv rfl) (fun _=>by omega) (fun _=>by omega)) rfl ?_;refine eQ 28 rfl Zk Zk Zk Zk (bM Zrf Zv0) (fe h (df (j:=6) rfl)) rfl ?_;refine cR 29 rfl Zk Zk Zk (cu rfl rfl (Zv rfl) (by first|exact IntWalk.u32_in _ ⟨by omega,by omega⟩|exact rfl)) rfl ?_;refine cR 30 rfl Zk Zk Zk (ug (Zv rfl) (Zv rfl) (by omega) rfl) rfl ?_;refine ZE 31 ?_;refine ZE 32 ?_;refine cR 33 rfl Zk Zk Zk (dk (j:=7) rfl Zrf (Zv rfl) (Zv rfl) (fun _=>by omega) (fun _=>by omega)) rfl ?_;refine eQ 34 rfl Zk Zk Zk Zk (bM Zrf Zv0) (fe h (df (j:=7) rfl)) rfl ?_;refine cR 35 rfl Zk Zk Zk (cu rfl rfl (Zv rfl) (by first|exact IntWalk.u32_in _ ⟨by omega,by omega⟩|exact rfl)) rfl ?_;refine cR 36 rfl Zk Zk Zk (ug (Zv rfl) (Zv rfl) (by omega) rfl) rfl ?_;refine cR 37 rfl Zk Zk Zk (zW Zv0 Zv0 hib) rfl ?_;refine ZE 38 ?_;refine cE 39 Zk ?_;refine ZP fun b4=>?_
 refine cE 40 Zk ?_;refine ZR ?_;refine bO Zk ?_;refine Z_5 ?_;refine ZSe (fun w hi=>HR w) ?_;refine Z_3 ?_;refine bY rfl (rfl) ?_;refine Z_5 ?_;refine ZM ?_;refine Z_4 ?_;refine ee (cs':=[]) (.inl rfl) Zu rfl rfl rfl Zh Zrf Zrf ?_;exact⟨rfl,rfl⟩
theorem hb_take(i:HI)(l:List HI):(cO (i::l)).take 8=qh i:=by
 show(qh i++cO l).take 8=_;exact List.take_left' rfl
theorem hb_drop(i:HI)(l:List HI):(cO (i::l)).drop 8=cO l:=by
 show(qh i++cO l).drop 8=_;exact List.drop_left' rfl
theorem hall_ok(A:Option Addr)(c:Nat)(l:List HI)(hg:ge l)(hl:l.length≤100000)(w:World)(h:Rd w .u8 A (cO l).length c (cO l)):
  Ctr prog 158 [.slice A (cO l).length c] w [] (fun v cs=>∃A' c',v= .tuple #[.slice A' l.length c',.int .i64 0]∧cs=[hiC A' c' l]):=by
 refine bL func158 rfl ntmps158 rfl (Inv.start w) ?_;refine Z_8 ?_;refine dB 285 5 ?_;refine Z_5 ?_;refine cJ (fun q:Nat×(Option Addr×Nat)×(Option Addr×Nat)=>[(0,.slice q.2.1.1 (cO (l.drop q.1)).length q.2.1.2),(4,.slice q.2.2.1 (l.take q.1).length q.2.2.2)]) (fun q=>[hiC q.2.2.1 q.2.2.2 (l.take q.1)]) (fun q=>q.1≤l.length∧Rd w .u8 q.2.1.1 (cO (l.drop q.1)).length q.2.1.2 (cO (l.drop q.1))) (fun q=>l.length - q.1) (⟨0,⟨A,c⟩,⟨none,0⟩⟩) ?_ ?_ ?_ ?_
 ·exact⟨aw _,h⟩
 ·exact Zwk
 ·exact Zu
 rintro⟨k,⟨A1,c1⟩,⟨A2,c2⟩⟩ ⟨hk,h1⟩;dsimp only at hk h1⊢;have hcap:=h1.cap;have hmx:=h1.max;simp only[maxLen]at hmx;have hlk:(l.take k).length=k:=(by rw[az];omega);refine Z_8 ?_;refine ZW ?_ ?_<;>intro hc2
 ·simp only[ap]at hc2;have hkl:k<l.length:=(by rw[iW,bz]at hc2;omega);obtain⟨i,hx⟩:∃i,l[k]? =some i:=⟨_,ak hkl⟩;have hgi:=hg i (aK hx);have htk:l.take (k+1)=l.take k++[i]:=(by rw[List.take_add_one,hx];rfl);have hdr:l.drop k=i::l.drop (k+1):=(by obtain⟨q1,q2⟩:=au.1 hx;rw[←q2];exact List.drop_eq_getElem_cons q1);have hn8:(cO (l.drop k)).length=8+(cO (l.drop (k+1))).length:=(by rw[hdr];show(qh i++_).length=_;rw[ae];rfl);have h2:=lN h1 8;rw[hdr,hb_take]at h2;have HD:=Bf A1 c1 i hgi;have h3:=h1.cut (lo:=8) (hi:=(cO (l.drop k)).length) (by omega) (aQ _);have e3:((ints .u8 (cO (l.drop k))).take (cO (l.drop k)).length).drop 8=ints .u8 (cO (l.drop (k+1))):=(by rw[List.take_of_length_le (by simp[ints]),hdr];show((cO (i::l.drop (k+1))).map _).drop 8=_;rw[←List.map_drop,hb_drop];rfl);rw[e3,show(cO (l.drop k)).length - 8=(cO (l.drop (k+1))).length by omega]at h3;have htl:(l.take (k+1)).length=k+1:=(by rw[az];omega);obtain⟨N,hN⟩:=Zgn ((cO (l.drop k)).length);rw[hN]at hn8 h1 hcap⊢;refine Z_8 ?_;refine Zy (y_min (Zv rfl) (Zv rfl) (show _=((8:Nat):Int)from by split<;>omega)) ?_;refine Zy (gL 8 rfl Zrf (Zv rfl) (Zv rfl) (fun _=>by first|rfl|omega) (fun _=>by omega)) ?_;refine ZSe (fun w hi=>HD w (h2.IB hi)) ?_;refine Z_3 ?_;refine ZN fun b5=>?_
  refine ZM ?_;refine eK ?_;refine bY rfl (rfl) ?_;refine Z_6 ?_;refine dM (di rfl rfl Zrf Zrf rfl rfl rfl) rfl ?_;rintro _ _ ⟨b24,rfl,rfl⟩;refine dM (cM (e:=285) (sz:=5) (bytes:=40) rfl rfl Za rfl rfl (fun w hi=>hi.rd (show Has _ (slv 285 5 (some ⟨b24,0,none⟩) 1 1 i.cells)from Zh)) (iK rfl) (by simp only[maxLen];omega) (by omega)) rfl ?_;rintro _ _ ⟨A3,c3,rfl,rfl⟩;rw[hi_snoc,←htk,show(l.take k).length+1=(l.take (k+1)).length by omega];refine Z_5 ?_;refine Zy (uf (lo:=8) (hi:=N) rfl Zrf (Zv rfl) (.inr ⟨_,_,rfl,(Zv rfl)⟩) (.inl ⟨rfl,rfl⟩) (by omega) (by omega)) ?_;rw[show N - 8=(cO (l.drop (k+1))).length from by omega];refine Z_3 ?_;refine eh ((⟨k+1,⟨if c1=8 then A1 else A1.map (·.add (8*1)),c1 - 8⟩,⟨A3,c3⟩⟩:Nat×(Option Addr×Nat)×(Option Addr×Nat))) ?_ ?_ ?_
  ·exact⟨⟨by omega,h3⟩,by omega⟩
  ·exact Zwk
  exact Zu
 simp only[aj]at hc2;obtain rfl:k=l.length:=(by rw[iW,bz]at hc2;omega);rw[bA];refine jW ?_;refine fw (cs':=[slv _ _ _ _ _ _]) (.inl rfl) Zu rfl rfl rfl ?_;exact⟨_,_,rfl,rfl⟩
theorem wE(b:Bool)(w:World):Ctr prog 238 [.bool b] w [] (fun v cs=>v= .int .u64 (b2i b)∧cs=[]):=by
 refine bL func238 rfl ntmps238 rfl (Inv.start w) ?_;refine eo ?_;refine ZW ?_ ?_<;>intro hc1
 ·subst hc1;refine Z_7 ?_;refine Zra ?_;exact⟨rfl,rfl⟩
 subst hc1;refine Z_8 ?_;refine Zra ?_;exact⟨rfl,rfl⟩
theorem Be(op a b:Int)(ha:0≤a∧a≤18446744073709551615)(hb:0≤b∧b≤18446744073709551615)(w:World):Ctr prog 210 [.int .i64 op,.int .u64 a,.int .u64 b] w [] (fun v cs=>v= .int .u64 (eT op a b)∧cs=[]):=by
 refine bL func210 rfl ntmps210 rfl (Inv.start w) ?_;refine xk ?_;refine ZW ?_ ?_<;>intro hc2
 ·refine Z_9 ?_;refine Zra ?_;refine⟨?_,rfl⟩;simp only[eT, *,ac,aa]
 refine Z_6 ?_;refine ZW ?_ ?_<;>intro hc4
 ·refine Z_4 ?_;refine Zy (cF Zv0 Zv0 rfl) ?_;refine Z_6 ?_;refine Zra ?_;refine⟨?_,rfl⟩;simp only[eT, *,ac,aa]
 refine Z_6 ?_;refine ZW ?_ ?_<;>intro hc6
 ·refine Z_4 ?_;refine Zy (eP Zv0 Zv0 rfl) ?_;refine Z_6 ?_;refine Zra ?_;refine⟨?_,rfl⟩;simp only[eT, *,ac,aa]
 refine Z_6 ?_;refine ZW ?_ ?_<;>intro hc8
 ·refine eo ?_;refine Zra ?_;refine⟨?_,rfl⟩;simp only[eT, *,ac,aa]
 refine Z_6 ?_;refine ZW ?_ ?_<;>intro hc10
 ·refine eo ?_;refine Zra ?_;refine⟨?_,rfl⟩;simp only[eT, *,ac,aa]
 refine Z_6 ?_;refine ZW ?_ ?_<;>intro hc12
 ·refine eo ?_;refine Zra ?_;refine⟨?_,rfl⟩;simp only[eT, *,ac,aa]
 refine Z_6 ?_;refine ZW ?_ ?_<;>intro hc14
 ·refine Z_4 ?_;refine Zy (ug (Zv rfl) (Zv rfl) (by omega) rfl) ?_;refine Z_6 ?_;refine Zra ?_;refine⟨?_,rfl⟩;simp only[eT, *,ac,aa]
 refine Z_6 ?_;refine ZW ?_ ?_<;>intro hc16
 ·refine Z_4 ?_;refine Zy (jY (Zv rfl) (Zv rfl) (by omega) rfl) ?_;refine Z_6 ?_;refine Zra ?_;refine⟨?_,rfl⟩;simp only[eT, *,ac,aa]
 refine Z_6 ?_;refine ZW ?_ ?_<;>intro hc18
 ·refine Z_4 ?_;refine Zy (i3 Zv0 Zv0 rfl) ?_;refine Z_6 ?_;refine Zra ?_;refine⟨?_,rfl⟩;simp only[eT, *,ac,aa]
 refine Z_6 ?_;refine ZW ?_ ?_<;>intro hc20
 ·refine Z_7 ?_;refine ZW ?_ ?_<;>intro hc21
  ·refine Z_9 ?_;refine Zra ?_;refine⟨?_,rfl⟩;simp only[eT, *,ac,aa]
  have hb0:b≠0:=ne_of_beq_false hc21;refine Z_6 ?_;refine Zy (jA (Zv rfl) (Zv rfl) (by omega) rfl) ?_;refine Z_6 ?_;refine Zra ?_;refine⟨?_,rfl⟩;simp only[eT, *,ac,aa]
 refine Z_6 ?_;refine ZW ?_ ?_<;>intro hc24
 ·refine Z_5 ?_;refine ZSe (fun w hi=>wE _ w) ?_;refine Z_6 ?_;refine Zra ?_;refine⟨?_,rfl⟩;simp only[eT, *,ac,aa]
 refine Z_8 ?_;refine ZSe (fun w hi=>wE _ w) ?_;refine Z_4 ?_;refine Zra ?_;refine⟨?_,rfl⟩;simp only[eT, *,ac,aa]
end Go.Proofs.YtomjgmbccamgiaaGreatDoor
