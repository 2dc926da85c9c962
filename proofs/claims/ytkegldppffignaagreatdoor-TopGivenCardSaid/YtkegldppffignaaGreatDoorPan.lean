/- Lemmas. -/
import Derived.Test.YtkegldppffignaaGreatDoorPaa
import Derived.Test.YtkegldppffignaaGreatDoorPab
import Derived.Test.YtkegldppffignaaGreatDoorPam
set_option linter.unusedSimpArgs false
set_option linter.unusedVariables false
set_option maxRecDepth 100000
set_option maxHeartbeats 4000000
namespace Go.Ink
open Go.RowKit
def oS(n at_:Int):Bool:=decide (0<=n)&&decide (n<at_)
def pV(l:List Int):Bool:=l.all λn=>decide (0<=n)&&decide (n<=16)
def jT(MM MO:Int)(i:Nat)(x:II):Bool:=
 bif x.dst !=i then false else
 bif x.op==0 then x.a==0&&x.b==0 else
 bif x.op==1 then(x.a==0&&x.b==0)&&decide (x.imm<MM)else
 bif x.op==2 then(x.a==0&&x.b==0)&&decide (x.imm<MO)else
 bif x.op==3 then((oS x.a i&&oS x.b i)&&decide (16<=x.imm))&&decide (x.imm<=23)else
 bif x.op==4 then(oS x.a i&&oS x.b i)&&((decide (16<=x.imm)&&decide (x.imm<=23))||x.imm==25)else false
def jx(MM MO:Int):List II->Nat->Bool
 |[],_=>true
 |x::c,i=>jT MM MO i x&&jx MM MO c (i+1)
def Pg.NA(p:Pg):Bool:=pV [p.MM,p.MO,p.Nc,p.Ng]&&(!decide (p.count<1)&& !decide (8<p.count))
def Pg.Nz(p:Pg):Bool:=
 (!((p.flags != -1&& !oS p.flags p.code.length)||(p.target != -1&& !oS p.target p.code.length)))&&(p.branch==0||((decide (33<=p.branch)&&decide (p.branch<=37))&&p.target== -1))
def Pg.M0(p:Pg):Bool:=p.NA&&(jx p.MM p.MO p.code 0&&((p.MV.all λn=>oS n p.code.length)&&((p.MW.all λn=>oS n p.code.length)&&p.Nz)))
def dV(p:Pg):Pl:=ig (gM p) 7 p.code.length p.code.length
theorem vX{MM MO:Int}:∀(c:List II) (i:Nat),jx MM MO c i=true->∀(j:Nat) (x:II),c[j]? =some x->jT MM MO (i+j) x=true
 :=by intro y1;induction y1<;>grind [jT,jx]
theorem made_ok{MM MO:Int}{i:Nat}{x:II}(h:jT MM MO i x=true)(him:0<=x.imm/\x.imm<=4294967295):x.ok MM MO i:=by
 obtain⟨op,dst,a,b,imm⟩:=x;unfold jT at h;dsimp only at h him;cases h0:dst !=(i:Int)with
 |true=>grind
 |false=>
 rw[h0,aa]at h;cases c0:op==0 with
 |true=>exact⟨him,Or.inl (by grind),λhab=>by grind⟩
 |false=>
 rw[c0,aa]at h;cases c1:op==1 with
 |true=>
  rw[c1,ac]at h;simp only[aL,aj,beq_iff_eq]at h c1;exact⟨him,Or.inr (Or.inl ⟨c1,h.2⟩),λhab=>by grind⟩
 |false=>
 rw[c1,aa]at h;cases c2:op==2 with
 |true=>
  rw[c2,ac]at h;simp only[aL,aj,beq_iff_eq]at h c2;exact⟨him,Or.inr (Or.inr (Or.inl ⟨c2,h.2⟩)),λhab=>by grind⟩
 |false=>
 rw[c2,aa]at h;cases c3:op==3 with
 |true=>
  rw[c3,ac]at h;simp only[oS,aL,aj,beq_iff_eq]at h c3;exact⟨him,Or.inr (Or.inr (Or.inr (Or.inl ⟨c3,h.1.2,h.2⟩))),λ_=>⟨h.1.1.1,h.1.1.2⟩⟩
 |false=>
 rw[c3,aa]at h;cases c4:op==4 with
 |true=>
  rw[c4,ac]at h;simp only[oS,aL,Bool.or_eq_true,aj,beq_iff_eq]at h c4;exact⟨him,Or.inr (Or.inr (Or.inr (Or.inr ⟨c4,h.2⟩))),λ_=>⟨h.1.1,h.1.2⟩⟩
 |false=>grind
theorem sR{p:Pg}(h:p.M0=true)(him:ImC p.code)(hn:p.code.length<=64)(hnx:u32 p.next)(htk:u32 p.taken):PgOk p (gM p)/\(p.branch≠0->p.target= -1)/\(p.flags= -1\/0<=p.flags)/\(p.target= -1\/0<=p.target):=by
 unfold Pg.M0 Pg.NA Pg.Nz pV at h;simp only[aL,Bool.not_eq_true',Bool.or_eq_true,bz,Bool.and_eq_false_iff,aj,ah,List.all_cons,List.all_nil,bo,beq_iff_eq,bne_eq_false_iff_eq,Bool.not_eq_false',oS]at h;obtain⟨⟨⟨d1,d2,d3,d4, -⟩,c1,c2⟩,hm,hoD,hoR,⟨hf,ht⟩,hb⟩:=h;have hok:OkC p.MM p.MO p.code:=λn x hx=>by
  have:=vX p.code 0 hm n x hx;rw[bE]at this;exact made_ok this (him x (aD hx))
 refine⟨⟨hok,λn x hx ho=>?_,λn hn=>⟨(hoD n hn).1,(hoD n hn).2,pD p (Or.inl hn) (hoD n hn)⟩,λn hn=>⟨(hoR n hn).1,(hoR n hn).2,pD p (Or.inr (Or.inl hn)) (hoR n hn)⟩,λh0=>?_,λh0=>?_,?_,hn,d1,d2,d3,d4,hnx,htk,by omega⟩,?_,?_,?_⟩
 .have hl:=(au.1 hx).1;obtain⟨a,b⟩:=(hok n x hx).ab ho;exact G0 p hx (by grind [lr]) ⟨a.1,by omega⟩ ⟨b.1,by omega⟩
 .have hf:0<=p.flags/\p.flags<p.code.length:=by rcases hf with e|e;omega;exact e
  exact⟨hf.2,pD p (Or.inr (Or.inr (Or.inl rfl))) hf⟩
 .have ht:0<=p.target/\p.target<p.code.length:=by rcases ht with e|e;omega;exact e
  exact⟨ht.2,pD p (Or.inr (Or.inr (Or.inr rfl))) ht⟩
 .omega
 .omega
 .omega
 omega
theorem wZ(k:Int)(c:List II)(s:Sd):(fj k c s).2.1.length<=c.length+1:=by
 grind [fj]
theorem one_len{op:Int}(hp:dB op=true)(w:Lw)(n nx:Int):(w.one op n nx).code.length<=w.code.length+4:=by
 have hD:w.MP.2.code.length<=w.code.length+1:=wZ 1 w.code w.d;have hR:w.Nn.2.code.length<=w.code.length+1:=wZ 2 w.code w.r;have hP:w.MP.2.MP.2.code.length<=w.code.length+2:=aW (wZ 1 w.MP.2.code w.MP.2.d) Wq1;have hA:∀(v:Lw) (a b c d:Int),(v.add a b c d).code.length=v.code.length+1:=λv a b c d=>by simp[Lw.add]
 rcases pw hp with rfl|rfl|rfl|rfl|rfl|rfl|rfl|rfl|rfl|hr|hr|rfl|hr|rfl|rfl|rfl
 .exact Nat.le_add_right _ _
 .show(w.add 0 0 0 n).code.length<=_;grind
 .show(w.add 0 0 0 n).code.length<=_;grind
 .show w.MP.2.code.length<=_;omega
 .show w.MP.2.code.length<=_;omega
 .show w.MP.2.MP.2.code.length<=_;omega
 .show w.MP.2.MP.2.code.length<=_;omega
 .show w.MP.2.code.length<=_;omega
 .show w.Nn.2.code.length<=_;omega
 .show(w.go op n nx).code.length<=_;rw[lB (Or.inl hr)];unfold Lw.reckon;rw[show(op !=25)=true by simp;omega];show(((w.MP.2.MP.2.add 4 w.MP.2.MP.1 w.MP.1 op).wfl w.MP.2.MP.2.here).add 3 w.MP.2.MP.1 w.MP.1 op).code.length<=_;rw[hA];show(w.MP.2.MP.2.add 4 w.MP.2.MP.1 w.MP.1 op).code.length+1<=_
  grind
 .subst hr;show(w.MP.2.MP.2.add 4 w.MP.2.MP.1 w.MP.1 25).code.length<=_
  grind
 .exact Nat.le_add_right _ _
 .have h5:op=33\/op=34\/op=35\/op=36\/op=37:=by omega
  rcases h5 with rfl|rfl|rfl|rfl|rfl<;>exact Nat.le_add_right _ _
 .show(w.add 0 0 0 nx).code.length<=_;grind
 .show w.Nn.2.code.length<=_;omega
 show w.MP.2.code.length<=_;omega
theorem tn:∀(l:List (Int×Int)) (pc:Int) (w:Lw) (q:Int×Lw),mS pc w l=some q->q.2.code.length<=w.code.length+4*l.length
 |[],pc,w,q,h=>by obtain rfl:(pc,w)=q:=ay h;grind
 |i::l,pc,w,q,h=>by
  obtain⟨-,h2, -,h4⟩:=lA h;have h5:=tn l _ _ q h4
  grind [one_len,cA]
theorem za(U:List Bool):∀(suf:List II) (i:Nat) (pl:List Int) (c:List II),(mm U suf i pl c).2.length<=c.length+suf.length
 :=by intro y1;induction y1<;>grind [mm,nW]
theorem zb(U:List Bool):∀(suf:List II) (i:Nat) (pl:List Int) (c:List II),ImC c->ImC suf->ImC (mm U suf i pl c).2
 :=by intro y1;induction y1<;>grind [ImC,mm,nW,lr]
def gm(W:List Int)(from_ n:Nat):List Int:=(List.range n).map λk=>W.getD (from_+k) 0
def nS(W:List Int)(s:St):St:=⟨W.getD 0 0,gm W 4 (W.getD 2 0).toNat,gm W 20 (W.getD 3 0).toNat,W.getD 1 0,s.MQ,s.MU,s.ie,s.root,s.vec,s.epc,s.MR,s.addr,s.M1,s.eie,IntKind.u64.wrap (s.count+W.getD 36 0),s.halted⟩
theorem yc{W D out:List Int}{f k:Nat}{n:Int}(hn:n=((D.length - k+out.length:Nat):Int))(hlow:∀i,i<D.length - k->W.getD (f+i) 0=D.getD i 0)(hnew:∀i,i<out.length->W.getD (f+(D.length - k)+i) 0=out.getD i 0):
  gm W f n.toNat=D.take (D.length - k)++out:=by
 subst hn;rw[aP];have hl:(D.take (D.length - k)).length=D.length - k:=by rw[aB];omega
 apply List.ext_getElem?
 grind [gm]
theorem BD{n:Nat}{U:Mmu}{d:Dev}(hU:UOk n U)(hdv:d.ok){s:St}(hwf:s.wf)(hr:s.right=true){l:List (Int×Int)}(hu:∀i,i∈l->u32 i.2){p:Pg}(hlow:fJ s.pc l=some p)(hright:p.M0=true){M:HM}{f:Nat}
  (jy:jy (gQ p (dV p)) f ⟨List.replicate 16 0,Nl s,0⟩=((1,1),M)):
  EN l s (nS M.words s)/\(nS M.words s).wf/\(nS M.words s).right=true/\MI s (nS M.words s) l.length/\1<=l.length/\l.length<=8/\M.words.getD 2 0<=16/\M.words.getD 3 0<=16/\M.words.getD 1 0<=15:=by
 obtain⟨hd16,hr16, -⟩:=St.fits hr;unfold fJ at hlow;cases hlen:decide ((l.length:Int)<1)||decide (8<(l.length:Int))with
 |true=>grind
 |false=>
 rw[hlen,aa]at hlow;simp only[bz,ah]at hlen;have hl0:l≠[]:=λe=>by grind
 cases hgo:mS s.pc Lw.init l with
 |none=>grind
 |some q=>
 rw[hgo]at hlow;obtain⟨nx,w⟩:=q;obtain rfl:=ay hlow;obtain⟨lk, -,hnx⟩:=rW l s.pc Lw.init _ hu hgo tf;have hnx:=hnx hl0;dsimp only at lk hnx;obtain⟨i,hi⟩:=Zgn (l.getLastD (0,0));rw[hi]at hright jy;obtain⟨p0,hp0⟩:=Zgn (wW nx w i l.length);rw[hp0]at hright jy;have f1:p0.code=w.code:=by rw[<-hp0];rfl
 have f2:p0.MV=w.d.l:=by rw[<-hp0];rfl
 have f3:p0.MW=w.r.l:=by rw[<-hp0];rfl
 have f4:p0.flags=w.flags:=by rw[<-hp0];rfl
 have f5:p0.target=w.target:=by rw[<-hp0];rfl
 have f6:p0.branch=w.branch:=by rw[<-hp0];rfl
 have raw:Raw p0:=⟨by rw[f1];exact lk.wf,by rw[f1];exact lk.ops,by simp_all [lk.d],by simp_all [lk.r],by simp_all [lk.flags],by simp_all [lk.target]⟩;have g1:(cH p0).MM=w.d.MN:=by rw[<-hp0];rfl
 have g2:(cH p0).MO=w.r.MN:=by rw[<-hp0];rfl
 have g3:(cH p0).Nc=w.d.high:=by rw[<-hp0];rfl
 have g4:(cH p0).Ng=w.r.high:=by rw[<-hp0];rfl
 have g5:(cH p0).next=bif i.1==32||i.1==38 then IntKind.u32.wrap (nx+lI i.2)else nx:=by rw[<-hp0];rfl
 have g6:(cH p0).taken=bif i.1==32||i.1==38 then 0 else bif w.branch !=0 then IntKind.u32.wrap (nx+lI i.2)else 0:=by rw[<-hp0];rfl
 have g7:(cH p0).branch=w.branch:=by rw[<-hp0];rfl
 have g8:(cH p0).count=l.length:=by rw[<-hp0];rfl
 have hlen4:=tn l s.pc Lw.init _ hgo;have hlen5:w.code.length<=32:=by have:Lw.init.code.length=0:=rfl;dsimp only at hlen4;omega
 have hlen6:(cH p0).code.length<=64:=by
  have:=za (gl p0) p0.code 0 (List.replicate p0.code.length 0) [];have e:(cH p0).code=(mm (gl p0) p0.code 0 (List.replicate p0.code.length 0) []).2:=rfl;rw[e];rw[f1]at this|-;simp at this;omega
 have himc:ImC (cH p0).code:=zb (gl p0) p0.code 0 _ [] (λ_ h=>by cases h) (by rw[f1];exact lk.imm);have hn32:u32 (cH p0).next:=by rw[g5];cases i.1==32||i.1==38 with|true=>exact u5 _|false=>exact hnx
 have ht32:u32 (cH p0).taken:=by
  have z:u32 0:=⟨by decide,by decide⟩;rw[g6];cases i.1==32||i.1==38 with
  |true=>exact z
  |false=>grind [u5]
 obtain⟨pok,pbt,pfl,ptg⟩:=sR hright himc hlen6 hn32 ht32;have hplan:I9 (dV (cH p0)) (gM (cH p0)) (cH p0).code.length:=Gu (λi hi=>G1 (cH p0) hi) hlen6;have hgo2:HGo (gQ (cH p0) (dV (cH p0))) 0 (gQ (cH p0) (dV (cH p0))) (List.replicate 16 0) (Nl s) M:=⟨List.drop_zero,by simp,BX s,f,jy⟩;have left:=Lm pok hplan hr hwf hgo2;have li0:LI s.d s.r Lw.init s.d s.r:=⟨⟨Int.le_refl _,by show(0:Int)<=_;omega,by show s.d=s.d.take (s.d.length - (0:Int).toNat)++[];simp,λ_ h=>by cases h⟩,⟨Int.le_refl _,by show(0:Int)<=_;omega,by show s.r=s.r.take (s.r.length - (0:Int).toNat)++[];simp,λ_ h=>by cases h⟩⟩;have n1:=left.MM;have n2:=left.MO;have n3:=left.Nc;have n4:=left.Ng;rw[g1]at n1;rw[g2]at n2;rw[g3]at n3;rw[g4]at n4;obtain⟨s',c1,c2,c3,c4,c5,c6,c7,c8⟩:=Cd hU hdv hd16 hr16 l s Lw.init (nx,w) hl0 hu hgo hwf hr li0 (Or.inl ⟨rfl,rfl⟩) rfl rfl n1 n2 n3 n4;rw[hi]at c6 c8;dsimp only at c4 c5 c6 c8;obtain⟨V,hV⟩:=Zgn (Ni s.d s.r (cH p0).code);have hmv:∀m,(m∈p0.MV\/m∈p0.MW\/m=p0.flags\/m=p0.target)->II.in_ m w.code->0<=(eV p0).1.getD m.toNat 0/\V.getD ((eV p0).1.getD m.toNat 0).toNat 0=eB s.d s.r w.code m:=λm h1 h2=>by
  have h3:=FQ (D:=s.d) (R:=s.r) raw h1 (by grind);rw[f1]at h3;refine⟨h3.1.1,?_⟩;rw[<-hV];exact h3.2
 rw[hV]at left;have hoD:(cH p0).MV=ef (eV p0).1 w.d.l:=by rw[<-f2];rfl
 have hoR:(cH p0).MW=ef (eV p0).1 w.r.l:=by rw[<-f3];rfl
 have hfl:(cH p0).flags=eP (eV p0).1 w.flags:=by rw[<-f4];rfl
 have htg:(cH p0).target=eP (eV p0).1 w.target:=by rw[<-f5];rfl
 have hc3:=c3;obtain⟨-, -,fl15⟩:=St.fits c3;have hfl0:=c2.flags;have eF:(cH p0).NW V s.flags=s'.flags:=by
  unfold Pg.NW;rw[hfl];rcases c5 with⟨q1,q2⟩|⟨q1,q2⟩
  .rw[q1];exact q2.symm
  have hne:w.flags≠ -1:=by have:=q1.1;omega
  have h3:=hmv w.flags Wq1 q1;unfold eP;rw[show(w.flags != -1)=true by grind,ac,ax h3.1,ac,h3.2,<-q2];have:=hfl0.1;omega
 have ePc:(cH p0).NK V s'.flags=s'.pc:=by
  rw[c6];unfold Pg.NK qK;rw[htg,g5,g6,g7];rw[htg]at ptg pbt;rw[g7]at pbt;by_cases ht:w.target= -1
  .grind [eP,eV,cY]
  have hin:II.in_ w.target w.code:=by rcases lk.target with e|e;exact absurd e ht;exact e
  grind [eP,eV,cY]
 have N4:(cH p0).MV.length=w.d.l.length:=by rw[hoD];simp[ef]
 have lenR:(cH p0).MW.length=w.r.l.length:=by rw[hoR];simp[ef]
 have outsEq:∀(L:List Int),(∀m,m∈L->(m∈p0.MV\/m∈p0.MW\/m=p0.flags\/m=p0.target)/\II.in_ m w.code)->∀j,j<L.length->V.getD ((ef (eV p0).1 L).getD j 0).toNat 0=(L.map (eB s.d s.r w.code)).getD j 0:=λL hL j hj=>by
  grind [ef,eV,eB]
 have hLD:∀m,m∈w.d.l->(m∈p0.MV\/m∈p0.MW\/m=p0.flags\/m=p0.target)/\II.in_ m w.code:=λm hm=>⟨Or.inl (by grind),lk.d m hm⟩
 have hLR:∀m,m∈w.r.l->(m∈p0.MV\/m∈p0.MW\/m=p0.flags\/m=p0.target)/\II.in_ m w.code:=λm hm=>⟨Or.inr (Or.inl (by grind)),lk.r m hm⟩
 have eD:gm M.words 4 (M.words.getD 2 0).toNat=s'.d:=by
  rw[c4.d.eq];have a1:=left.N4;have a2:=left.lowD;have a3:=left.newD;rw[g1]at a1 a2 a3;rw[N4]at a1 a3;refine yc (by grind) a2 (λj hj=>?_);have hj:j<w.d.l.length:=by simpa using hj
  rw[a3 j hj,hoD];exact outsEq w.d.l hLD j hj
 have eR:gm M.words 20 (M.words.getD 3 0).toNat=s'.r:=by
  rw[c4.r.eq];have a1:=left.lenR;have a2:=left.lowR;have a3:=left.newR;rw[g2]at a1 a2 a3;rw[lenR]at a1 a3;refine yc (by grind) a2 (λj hj=>?_);have hj:j<w.r.l.length:=by simpa using hj
  rw[a3 j hj,hoR];exact outsEq w.r.l hLR j hj
 have eS:nS M.words s=s':=by
  unfold nS;have hk:s'=_:=c7;rw[left.pc,left.flags,left.count,eF,ePc,eD,eR,g8];rw[hk]
 have hfit1:=left.fitD;have hfit2:=left.fitR;have hw2:=left.N4;have hw3:=left.lenR;rw[eS];exact⟨c1,c2,c3,c7,by omega,by omega,by omega,by omega,by rw[left.flags,eF];omega⟩
abbrev HI.cells(i:HI):List Value:=[.int .i64 i.op,.int .i64 i.rd,.int .i64 i.ra,.int .i64 i.rb,.int .u32 i.imm]
abbrev hiv(i:HI):Value:= .agg i.cells.toArray
def vz(i:HI):HI×Bool:=
 bif i.op==0 then(⟨i.op,0,0,0,0⟩,true)else bif i.op==1 then(⟨i.op,i.rd,0,0,i.imm⟩,true)else bif i.op==2 then(⟨i.op,i.rd,i.ra,0,0⟩,true)else
 bif decide (3<=i.op)&&decide (i.op<=13)then(⟨i.op,i.rd,i.ra,i.rb,0⟩,true)else bif i.op==14 then(⟨i.op,i.rd,i.ra,0,i.imm⟩,true)else bif i.op==15 then(⟨i.op,0,i.ra,i.rb,i.imm⟩,true)else
 bif i.op==16||i.op==17 then(⟨i.op,0,i.ra,0,i.imm⟩,true)else bif i.op==18||i.op==19 then(⟨i.op,0,0,0,i.imm⟩,true)else(⟨i.op,0,0,0,0⟩,false)
structure HI.NJ(i:HI):Prop where
 asked:vz i=(i,true)
 rd:0<=i.rd/\i.rd<=15
 ra:0<=i.ra/\i.ra<=15
 rb:0<=i.rb/\i.rb<=15
 imm:0<=i.imm/\i.imm<=4294967295
theorem HI.NJ.op{i:HI}(h:i.NJ):0<=i.op/\i.op<=19:=by
 grind [h.asked,vz]
def rA(i:HI):List Int:=[i.op,i.rd,i.ra,i.rb,i.imm%256,i.imm/256%256,i.imm/65536%256,i.imm/16777216%256]
def cI(l:List HI):List Int:=l.flatMap rA
theorem jt:∀l:List HI,(cI l).length=8*l.length
 |[]=>rfl
 |i::l=>by
  have:=jt l;show(rA i++cI l).length=_;rw[ae,this];show 8+_=8*(l.length+1);omega
theorem AW(l:List HI)(i:HI):cI (l++[i])=cI l++rA i:=by simp[cI]
theorem or_up{a b k:Nat}(ha:a<2^k)(hab:b*2^k+a<4294967296)(hk:k<=24):bits .or .u32 (a:Int) (IntKind.u32.wrap ((b:Int)*2^(min (k:Int).toNat IntKind.u32.bits)))=((b*2^k+a:Nat):Int):=by
 have e1:min (k:Int).toNat IntKind.u32.bits=k:=by rw[aP];show min k 32=k;omega
 rw[e1];have e2:IntKind.u32.wrap ((b:Int)*2^k)=((b*2^k:Nat):Int):=by
  rw[aE];have:((b:Int)*2^k)=((b*2^k:Nat):Int):=by simp
  rw[this];omega
 rw[e2,or32 Wq1 Wq1,Nat.or_comm,Nat.mul_comm b,<-Nat.two_pow_add_eq_or_of_lt ha]
theorem K0{m:Nat}(h:m<4294967296):bits .or .u32 (bits .or .u32 (bits .or .u32 ((m%256:Nat):Int) (IntKind.u32.wrap (((m/256%256:Nat):Int)*2^(min ((8:Nat):Int).toNat IntKind.u32.bits)))) (IntKind.u32.wrap (((m/65536%256:Nat):Int)*2^(min ((16:Nat):Int).toNat IntKind.u32.bits)))) (IntKind.u32.wrap (((m/16777216%256:Nat):Int)*2^(min ((24:Nat):Int).toNat IntKind.u32.bits)))=(m:Int):=by
 rw[or_up (k:=8) Wq1 Wq1 Wq5,or_up (k:=16) Wq1 Wq1 Wq5,or_up (k:=24) Wq1 Wq1 Wq5];omega
theorem z15:(0:Int)<=0/\(0:Int)<=15:=by decide
theorem z32:(0:Int)<=0/\(0:Int)<=4294967295:=by decide
theorem kC{rd v:Int}(h:0<=rd/\rd<=15)(hv:0<=v/\v<=4294967295):HI.NJ ⟨1,rd,0,0,v⟩:=⟨rfl,h,z15,z15,hv⟩
theorem Cq{rd ra:Int}(h:0<=rd/\rd<=15)(h2:0<=ra/\ra<=15):HI.NJ ⟨2,rd,ra,0,0⟩:=⟨rfl,h,h2,z15,z32⟩
theorem gg{op rd ra rb:Int}(ho:3<=op/\op<=13)(h:0<=rd/\rd<=15)(h2:0<=ra/\ra<=15)(h3:0<=rb/\rb<=15):HI.NJ ⟨op,rd,ra,rb,0⟩:=by
 refine⟨?_,h,h2,h3,z32⟩
 grind [vz]
theorem xq{rd ra v:Int}(h:0<=rd/\rd<=15)(h2:0<=ra/\ra<=15)(hv:0<=v/\v<=4294967295):HI.NJ ⟨14,rd,ra,0,v⟩:=⟨rfl,h,h2,z15,hv⟩
theorem tI{ra rb v:Int}(h:0<=ra/\ra<=15)(h2:0<=rb/\rb<=15)(hv:0<=v/\v<=4294967295):HI.NJ ⟨15,0,ra,rb,v⟩:=⟨rfl,z15,h,h2,hv⟩
theorem AY{op ra v:Int}(ho:op=16\/op=17)(h:0<=ra/\ra<=15)(hv:0<=v/\v<=4294967295):HI.NJ ⟨op,0,ra,0,v⟩:=by
 rcases ho with rfl|rfl<;>exact⟨rfl,z15,h,z15,hv⟩
theorem y7{v:Int}(hv:0<=v/\v<=4294967295):HI.NJ ⟨19,0,0,0,v⟩:=⟨rfl,z15,z15,z15,hv⟩
def gD(l:List HI):Prop:=∀i,i∈l->i.NJ
theorem dP:gD []:=λ_ h=>by cases h
theorem cB{i:HI}{l:List HI}(h:i.NJ)(k:gD l):gD (i::l):=λj hj=>by
 rcases aJ.1 hj with rfl|hj
 .exact h
 exact k j hj
theorem ek{a b:List HI}(h:gD a)(k:gD b):gD (a++b):=λj hj=>by
 rcases aS.1 hj with hj|hj
 .exact h j hj
 exact k j hj
theorem K2(op:Int):3<=kV op/\kV op<=13:=by
 grind [kV]
section
variable {pl:Pl} {N:Nat}
theorem Fg(x:Int):0<=IntKind.u32.wrap x/\IntKind.u32.wrap x<=4294967295:=by rw[aE];omega
theorem H8{r:Int}(h:0<=r/\r<=15):gD (Mn r):=cB (kC Wq5 Wq5) (cB (gg Wq5 h h Wq5) dP)
theorem y6{op rd a b:Int}(h:0<=rd/\rd<=15)(ha:0<=a/\a<=15)(hb:0<=b/\b<=15):gD (vV op rd a b):=by
 grind [vV,cB,gg,K2,xe,dP,H8]
theorem pP{r up:Int}(h:0<=r/\r<=15)(hu:0<=up/\up<=4294967295):gD (ur r up):=cB (kC Wq5 hu) (cB (gg Wq5 h h Wq5) (cB (gg Wq5 Wq5 Wq5 h) dP))
theorem qZ{rd r:Int}(h:0<=rd/\rd<=15)(h2:0<=r/\r<=15):gD (io rd r):=cB (kC Wq5 Wq5) (cB (gg Wq5 h h2 Wq5) dP)
theorem pO:gD gY:=cB (gg Wq5 Wq5 Wq5 Wq5) (ek (qZ Wq5 Wq5) (pP Wq5 Wq5))
theorem Ee{op a b:Int}(ha:0<=a/\a<=15)(hb:0<=b/\b<=15):gD (ma op a b):=by
 unfold ma;refine ek (ek (y6 Wq5 ha hb) (cB (gg Wq5 Wq5 Wq5 Wq5) (ek (qZ Wq5 Wq5) (pP Wq5 Wq5)))) ?_;cases op==16 with
 |true=>exact cB (gg Wq5 Wq5 Wq5 ha) (ek (pP Wq5 Wq5) (cB (gg Wq5 Wq5 ha Wq5) (cB (gg Wq5 Wq5 hb Wq5) pO)))
 |false=>
  cases op==17||op==25 with
  |true=>exact cB (gg Wq5 Wq5 ha hb) (ek (pP Wq5 Wq5) (cB (gg Wq5 Wq5 ha hb) (cB (gg Wq5 Wq5 ha Wq5) pO)))
  |false=>exact dP
theorem tL{n into:Int}(h:pl.has n)(hi:0<=into/\into<=15):0<=et pl n into/\et pl n into<=15:=by
 unfold et;rcases h with⟨h1,h2⟩|⟨h1,h2,h3⟩
 .grind [Pl.inR]
 grind
theorem pN{n into:Int}(hi:0<=into/\into<=15):gD (jN pl n into):=by
 grind [jN,dP,cB,xq,Fg]
theorem Ed{n r:Int}(hr:0<=r/\r<=15):gD (jq pl n r):=by
 grind [jq,dP,cB,tI,Fg]
theorem H7{nd nr:Int}{n:Nat}{x:II}(hp:∀k:Nat,k<N->pl.has k)(hn:n<N)(hx:x.ok nd nr n):gD (qu nd nr pl n x):=by
 have hN:=hp n hn;have h9:=tL (into:=9) hN Wq5;have hab:x.op=3\/x.op=4->(0<=et pl x.a 7/\et pl x.a 7<=15)/\(0<=et pl x.b 8/\et pl x.b 8<=15):=λho=>by
  obtain⟨⟨a1,a2⟩,b1,b2⟩:=hx.ab ho;have ea:((x.a.toNat:Nat):Int)=x.a:=by omega
  have eb:((x.b.toNat:Nat):Int)=x.b:=by omega
  have ha:=hp x.a.toNat Wq1;have hb:=hp x.b.toNat Wq1
  simp_all [tL]
 grind [qu,ek,Ed,hx.op,hx.imm,cB,kC,dP,xq,Fg,pN,y6,Ee,Cq]
theorem vB{nd nr:Int}(hp:∀k:Nat,k<N->pl.has k):∀(c:List II) (n:Nat),n+c.length<=N->(∀(i:Nat) (x:II),c[i]? =some x->x.ok nd nr (n+i))->gD (j9 nd nr pl c n)
 |[],_,_,_=>dP
 |x::c,n,hn,h=>by
  simp only[ak]at hn;refine ek (H7 hp Wq1 (by have:=h 0 x rfl;omega)) (vB hp c (n+1) Wq1 (λi y hy=>?_));have:=h (i+1) y (by grind)
  grind
theorem AX{n:Int}(hp:∀k:Nat,k<N->pl.has k)(h:0<=n/\n<N):pl.has n:=by
 have:=hp n.toNat Wq1
 grind
theorem y5{base f:Int}(hp:∀k:Nat,k<N->pl.has k)(hb:0<=base/\base<=15):∀(c:List Int) (k:Nat),(∀n,n∈c->0<=n/\n<N)->gD (vq pl base f c k)
 |[],_,_=>dP
 |n::c,k,h=>ek (pN Wq5) (cB (tI hb (tL (AX hp (h n cE)) Wq5) (Fg _)) (y5 hp hb c (k+1) (λm hm=>h m (bH _ hm))))
theorem tH{base f word:Int}{out:List Int}(hp:∀k:Nat,k<N->pl.has k)(hb:0<=base/\base<=15)(hw:0<=word/\word<=15)(h:∀n,n∈out->0<=n/\n<N):gD (ix pl base f word out):=
 ek (y5 hp hb out 0 h) (cB (kC Wq5 (Fg _)) (cB (gg Wq5 Wq5 Wq5 hb) (cB (tI Wq5 Wq5 Wq1) dP)))
theorem qB{e base word MN M9:Int}(he:0<=e/\e<=4294967295)(hb:0<=base/\base<=15)(hw:0<=word/\word<=15):gD (oc e base word MN M9):=
 cB (xq hb Wq5 Wq1) (cB (kC Wq5 (Fg _)) (cB (gg Wq5 Wq5 hb Wq5) (cB (AY (Or.inr rfl) Wq5 he) (cB (kC Wq5 (Fg _)) (cB (gg Wq5 Wq5 Wq5 hb) (cB (AY (Or.inr rfl) Wq5 he) (cB (gg Wq5 hb hb Wq5) dP)))))))
theorem AR(op:Int):0<=fU op/\fU op<=4294967295:=by
 grind [fU]
theorem Ef{p:Pg}{T:List Int}(ok:PgOk p T)(hN:N=p.code.length)(hp:∀k:Nat,k<N->pl.has k):gD (gQ p pl):=by
 subst hN;have hfl:=ok.flags;have htg:=ok.target;have h15:HI.NJ ⟨1,15,0,0,0⟩:=kC Wq5 Wq5;refine ek ?_ (cB (y7 Wq5) dP);unfold fL;obtain⟨e,he⟩:=Zgn (IntKind.u32.wrap ((fL p pl 0).length:Nat));have hee:=Fg ((fL p pl 0).length:Nat);unfold fL at he hee;rw[he]at hee|-;cases p.Nq with
 |false=>exact cB h15 dP
 |true=>
  cases p.ND with
  |false=>grind [cB,qB]
  |true=>
   have hflags:gD (gX p pl):=by
    unfold gX;by_cases h0:0<=p.flags
    .grind [cB,kC,ek,pN,gg,tL,AX,tI,dP]
    grind [dP]
   have htarget:gD (jm p pl):=by
    unfold jm;by_cases h0:0<=p.target
    .grind [ek,pN,cB,Cq,tL,AX,dP]
    grind [dP]
   have hbranch:∀q,gD (gI p q):=λq=>by
    grind [gI,dP,cB,xq,kC,AR,gg,AY,ip,Fg,ok.taken]
   show gD (rz p e++(iS p pl++rY p pl (17+(iS p pl).length)));refine ek (cB h15 (ek (qB hee Wq5 Wq5) (qB hee Wq5 Wq5))) (ek (ek (vB hp p.code 0 Wq1 (λi x hx=>by rw[bE];exact ok.code i x hx)) (ek (tH hp Wq5 Wq5 (λn hn=>⟨(ok.MV n hn).1,(ok.MV n hn).2.1⟩)) (tH hp Wq5 Wq5 (λn hn=>⟨(ok.MW n hn).1,(ok.MW n hn).2.1⟩)))) ?_)
   grind [rY,ek,cB,kC,ok.next,tI,Fg,y7,dP]
end
end Go.Ink
namespace Go.Proofs.YtkegldppffignaaGreatDoor
open Go.RowKit Go.Ink Go.Proofs.Tryz
attribute [local irreducible] OpY bS
theorem hi_eq(i:HI):EqV prog 10000 290 (hiv i) (hiv i):=
 .struct rfl Zk (EqF.cons Wq5 Zrf Zrf (.int rfl) (EqF.cons Wq5 Zrf Zrf (.int rfl) (EqF.cons Wq5 Zrf Zrf (.int rfl) (EqF.cons Wq5 Zrf Zrf (.int rfl) (EqF.cons Wq5 Zrf Zrf (.int rfl) EqF.nil)))))
theorem K7:prog.eqGuardType prog.depth 290=false:=by kernel_rfl
theorem LQ(i:HI)(w:World):Ctr prog 260 [hiv i] w [] (λv cs=>v= .tuple #[hiv (vz i).1,.bool (vz i).2]/\cs=[]):=by
 refine bN func260 rfl ntmps260 rfl (Inv.start w) ?_;refine Z_2 ?_;refine ZO λb1=>?_;refine ZN λb2=>?_
 refine Z_8 ?_;refine ZN λb4=>?_
 refine ZM ?_;refine gR ?_;refine ZW ?_ ?_<;>intro hc3
 .refine Z_6 ?_;refine ZM ?_;refine Z_4 ?_;refine lS (cs':=[]) (.inl rfl) Zu rfl rfl rfl Zh Zrf Zrf ?_;refine⟨?_,rfl⟩;exact oH
  try exact rfl
 refine Z_8 ?_;refine ZW ?_ ?_<;>intro hc4
 .refine bU ⟨λj=>List.elem j [5,7],[]⟩ Zk ?_;refine ZFe 0 1 ?_;refine ZG 1 ?_;refine ZFe 2 4 ?_;refine ZFe 4 1 ?_;refine k8 3 5 Zk ?_ ?_
  .refine kY ?_;refine cn 5 Zk ?_;refine ZQ ?_;refine ZFe 6 4 ?_;refine cn 7 Zk ?_;refine ZQ ?_;refine Wq7 ?_;refine⟨?_,rfl⟩;exact oH
   try exact rfl
  refine ZQ ?_;refine ZG 3 ?_;refine ZFe 6 4 ?_;refine cn 7 Zk ?_;refine ZQ ?_;refine Wq7 ?_;refine⟨?_,rfl⟩;exact oH
  try exact rfl
 refine Z_8 ?_;refine ZW ?_ ?_<;>intro hc6
 .refine bU ⟨λj=>List.elem j [5,7],[]⟩ Zk ?_;refine ZFe 0 1 ?_;refine ZG 1 ?_;refine ZFe 2 2 ?_;refine ZFe 4 1 ?_;refine k8 3 5 Zk ?_ ?_
  .refine kY ?_;refine cn 5 Zk ?_;refine ZQ ?_;refine ZFe 6 2 ?_;refine cn 7 Zk ?_;refine ZQ ?_;refine Wq7 ?_;refine⟨?_,rfl⟩;exact oH
   try exact rfl
  refine ZQ ?_;refine ZG 3 ?_;refine ZFe 6 2 ?_;refine cn 7 Zk ?_;refine ZQ ?_;refine Wq7 ?_;refine⟨?_,rfl⟩;exact oH
  try exact rfl
 refine jd ?_;refine ZW ?_ ?_<;>intro hc8
 .refine bU ⟨λj=>List.elem j [7,9,11],[]⟩ Zk ?_;refine ZFe 0 1 ?_;refine ZG 1 ?_;refine ZFe 2 2 ?_;refine ZFe 4 3 ?_;refine ZFe 6 1 ?_;refine wa_3 3 5 7 Zk ?_ ?_ ?_
  .refine kY ?_;refine k8 5 7 Zk ?_ ?_
   .refine kY ?_;refine cn 7 Zk ?_;refine ZQ ?_;refine ZFe 8 2 ?_;refine cn 9 Zk ?_;refine ZQ ?_;refine ZFe 10 3 ?_;refine cn 11 Zk ?_;refine ZQ ?_;refine Wq7 ?_;refine⟨?_,rfl⟩;exact oH
    try exact rfl
   refine ZQ ?_;refine ZFe 8 2 ?_;refine k8 5 9 Zk ?_ ?_
   .refine kY ?_;refine cn 9 Zk ?_;refine ZQ ?_;refine ZFe 10 3 ?_;refine cn 11 Zk ?_;refine ZQ ?_;refine Wq7 ?_;refine⟨?_,rfl⟩;exact oH
    try exact rfl
   refine ZQ ?_;refine ZG 5 ?_;refine ZFe 10 3 ?_;refine cn 11 Zk ?_;refine ZQ ?_;refine Wq7 ?_;refine⟨?_,rfl⟩;exact oH
   try exact rfl
  .refine kY ?_;refine k8 3 7 Zk ?_ ?_
   .refine kY ?_;refine cn 7 Zk ?_;refine ZQ ?_;refine ZFe 8 2 ?_;refine cn 9 Zk ?_;refine ZQ ?_;refine ZFe 10 3 ?_;refine cn 11 Zk ?_;refine ZQ ?_;refine Wq7 ?_;refine⟨?_,rfl⟩;exact oH
    try exact rfl
   refine ZQ ?_;refine ZG 3 ?_;refine ZFe 8 2 ?_;refine cn 9 Zk ?_;refine ZQ ?_;refine ZFe 10 3 ?_;refine cn 11 Zk ?_;refine ZQ ?_;refine Wq7 ?_;refine⟨?_,rfl⟩;exact oH
   try exact rfl
  refine ZQ ?_;refine ZG 3 ?_;refine ZFe 8 2 ?_;refine k8 5 9 Zk ?_ ?_
  .refine kY ?_;refine cn 9 Zk ?_;refine ZQ ?_;refine ZFe 10 3 ?_;refine cn 11 Zk ?_;refine ZQ ?_;refine Wq7 ?_;refine⟨?_,rfl⟩;exact oH
   try exact rfl
  refine ZQ ?_;refine ZG 5 ?_;refine ZFe 10 3 ?_;refine cn 11 Zk ?_;refine ZQ ?_;refine Wq7 ?_;refine⟨?_,rfl⟩;exact oH
  try exact rfl
 refine Z_8 ?_;refine ZW ?_ ?_<;>intro hc10
 .refine bU ⟨λj=>List.elem j [7,9,11],[]⟩ Zk ?_;refine ZFe 0 1 ?_;refine ZG 1 ?_;refine ZFe 2 2 ?_;refine ZFe 4 4 ?_;refine ZFe 6 1 ?_;refine wa_3 3 5 7 Zk ?_ ?_ ?_
  .refine kY ?_;refine k8 5 7 Zk ?_ ?_
   .refine kY ?_;refine cn 7 Zk ?_;refine ZQ ?_;refine ZFe 8 2 ?_;refine cn 9 Zk ?_;refine ZQ ?_;refine ZFe 10 4 ?_;refine cn 11 Zk ?_;refine ZQ ?_;refine Wq7 ?_;refine⟨?_,rfl⟩;exact oH
    try exact rfl
   refine ZQ ?_;refine ZFe 8 2 ?_;refine k8 5 9 Zk ?_ ?_
   .refine kY ?_;refine cn 9 Zk ?_;refine ZQ ?_;refine ZFe 10 4 ?_;refine cn 11 Zk ?_;refine ZQ ?_;refine Wq7 ?_;refine⟨?_,rfl⟩;exact oH
    try exact rfl
   refine ZQ ?_;refine ZG 5 ?_;refine ZFe 10 4 ?_;refine cn 11 Zk ?_;refine ZQ ?_;refine Wq7 ?_;refine⟨?_,rfl⟩;exact oH
   try exact rfl
  .refine kY ?_;refine k8 3 7 Zk ?_ ?_
   .refine kY ?_;refine cn 7 Zk ?_;refine ZQ ?_;refine ZFe 8 2 ?_;refine cn 9 Zk ?_;refine ZQ ?_;refine ZFe 10 4 ?_;refine cn 11 Zk ?_;refine ZQ ?_;refine Wq7 ?_;refine⟨?_,rfl⟩;exact oH
    try exact rfl
   refine ZQ ?_;refine ZG 3 ?_;refine ZFe 8 2 ?_;refine cn 9 Zk ?_;refine ZQ ?_;refine ZFe 10 4 ?_;refine cn 11 Zk ?_;refine ZQ ?_;refine Wq7 ?_;refine⟨?_,rfl⟩;exact oH
   try exact rfl
  refine ZQ ?_;refine ZG 3 ?_;refine ZFe 8 2 ?_;refine k8 5 9 Zk ?_ ?_
  .refine kY ?_;refine cn 9 Zk ?_;refine ZQ ?_;refine ZFe 10 4 ?_;refine cn 11 Zk ?_;refine ZQ ?_;refine Wq7 ?_;refine⟨?_,rfl⟩;exact oH
   try exact rfl
  refine ZQ ?_;refine ZG 5 ?_;refine ZFe 10 4 ?_;refine cn 11 Zk ?_;refine ZQ ?_;refine Wq7 ?_;refine⟨?_,rfl⟩;exact oH
  try exact rfl
 refine Z_8 ?_;refine ZW ?_ ?_<;>intro hc12
 .refine bU ⟨λj=>List.elem j [7,9,11],[]⟩ Zk ?_;refine ZFe 0 2 ?_;refine ZG 1 ?_;refine ZFe 2 3 ?_;refine ZFe 4 4 ?_;refine ZFe 6 2 ?_;refine wa_3 3 5 7 Zk ?_ ?_ ?_
  .refine kY ?_;refine k8 5 7 Zk ?_ ?_
   .refine kY ?_;refine cn 7 Zk ?_;refine ZQ ?_;refine ZFe 8 3 ?_;refine cn 9 Zk ?_;refine ZQ ?_;refine ZFe 10 4 ?_;refine cn 11 Zk ?_;refine ZQ ?_;refine Wq7 ?_;refine⟨?_,rfl⟩;exact oH
    try exact rfl
   refine ZQ ?_;refine ZFe 8 3 ?_;refine k8 5 9 Zk ?_ ?_
   .refine kY ?_;refine cn 9 Zk ?_;refine ZQ ?_;refine ZFe 10 4 ?_;refine cn 11 Zk ?_;refine ZQ ?_;refine Wq7 ?_;refine⟨?_,rfl⟩;exact oH
    try exact rfl
   refine ZQ ?_;refine ZG 5 ?_;refine ZFe 10 4 ?_;refine cn 11 Zk ?_;refine ZQ ?_;refine Wq7 ?_;refine⟨?_,rfl⟩;exact oH
   try exact rfl
  .refine kY ?_;refine k8 3 7 Zk ?_ ?_
   .refine kY ?_;refine cn 7 Zk ?_;refine ZQ ?_;refine ZFe 8 3 ?_;refine cn 9 Zk ?_;refine ZQ ?_;refine ZFe 10 4 ?_;refine cn 11 Zk ?_;refine ZQ ?_;refine Wq7 ?_;refine⟨?_,rfl⟩;exact oH
    try exact rfl
   refine ZQ ?_;refine ZG 3 ?_;refine ZFe 8 3 ?_;refine cn 9 Zk ?_;refine ZQ ?_;refine ZFe 10 4 ?_;refine cn 11 Zk ?_;refine ZQ ?_;refine Wq7 ?_;refine⟨?_,rfl⟩;exact oH
   try exact rfl
  refine ZQ ?_;refine ZG 3 ?_;refine ZFe 8 3 ?_;refine k8 5 9 Zk ?_ ?_
  .refine kY ?_;refine cn 9 Zk ?_;refine ZQ ?_;refine ZFe 10 4 ?_;refine cn 11 Zk ?_;refine ZQ ?_;refine Wq7 ?_;refine⟨?_,rfl⟩;exact oH
   try exact rfl
  refine ZQ ?_;refine ZG 5 ?_;refine ZFe 10 4 ?_;refine cn 11 Zk ?_;refine ZQ ?_;refine Wq7 ?_;refine⟨?_,rfl⟩;exact oH
  try exact rfl
 refine jd ?_;refine ZW ?_ ?_<;>intro hc14
 .refine bU ⟨λj=>List.elem j [5,7],[]⟩ Zk ?_;refine ZFe 0 2 ?_;refine ZG 1 ?_;refine ZFe 2 4 ?_;refine ZFe 4 2 ?_;refine k8 3 5 Zk ?_ ?_
  .refine kY ?_;refine cn 5 Zk ?_;refine ZQ ?_;refine ZFe 6 4 ?_;refine cn 7 Zk ?_;refine ZQ ?_;refine Wq7 ?_;refine⟨?_,rfl⟩;exact oH
   try exact rfl
  refine ZQ ?_;refine ZG 3 ?_;refine ZFe 6 4 ?_;refine cn 7 Zk ?_;refine ZQ ?_;refine Wq7 ?_;refine⟨?_,rfl⟩;exact oH
  try exact rfl
 refine jd ?_;refine ZW ?_ ?_<;>intro hc16
 .refine Z_4 ?_;refine ZL ?_;refine Z_6 ?_;refine ZM ?_;refine Z_4 ?_;refine lS (cs':=[]) (.inl rfl) Zu rfl rfl rfl Zh Zrf Zrf ?_;refine⟨?_,rfl⟩;exact oH
  try exact rfl
 refine Z_3 ?_;refine ZM ?_;refine Z_6 ?_;refine lS (cs':=[]) (.inl rfl) Zu rfl rfl rfl Zh Zrf Zrf ?_;refine⟨?_,rfl⟩;exact oH
 try exact rfl
theorem AT(n:Int)(w:World):Ctr prog 261 [.int .i64 n] w [] (λv cs=>v= .bool (decide (0<=n)&&decide (n<16))/\cs=[]):=by
 refine bN func261 rfl ntmps261 rfl (Inv.start w) ?_;refine xF ?_;refine Zra ?_;exact de
theorem yX(i:HI)(h:i.NJ)(w:World):Ctr prog 234 [hiv i] w [] (λv cs=>v= .bool true/\cs=[]):=by
 have HA:=LQ i;rw[h.asked]at HA;have hreg:∀n:Int,0<=n/\n<=15->(decide (0<=n)&&decide (n<16))=true:=λn hn=>by rw[ax hn.1,ax (show n<16 by omega)];rfl
 have e1:=hreg _ h.rd;have e2:=hreg _ h.ra;have e3:=hreg _ h.rb;have R1:=AT i.rd;have R2:=AT i.ra;have R3:=AT i.rb;rw[e1]at R1;rw[e2]at R2;rw[e3]at R3;refine bN func234 rfl ntmps234 rfl (Inv.start w) ?_;refine Z_2 ?_;refine ZO λb1=>?_;refine Z_6 ?_;refine ZSe (λw hi=>HA w) ?_;refine Z_3 ?_;refine ZN λb3=>?_
 refine ZM ?_;refine Z_7 ?_;refine jl (bR rfl rfl) Zh Zrf Zrf (Zv rfl) rfl ?_;refine jl (bR rfl rfl) Zh Zrf Zrf (Zv rfl) rfl ?_;refine Zyy rfl rfl (y_eqlT K7 (hi_eq i) (dh rfl) (dh rfl)) ?_;refine Z_4 ?_;refine fF (bR rfl rfl) rfl (cU rfl (λ_ _=>rfl) (λw hi=>R1 w)) rfl ?_;rintro _ _ ⟨_,⟨rfl,rfl⟩,rfl⟩;refine Z_4 ?_;refine fF (bR rfl rfl) rfl (cU rfl (λ_ _=>rfl) (λw hi=>R2 w)) rfl ?_;rintro _ _ ⟨_,⟨rfl,rfl⟩,rfl⟩;refine Z_4 ?_;refine fF (bR rfl rfl) rfl (cU rfl (λ_ _=>rfl) (λw hi=>R3 w)) rfl ?_;rintro _ _ ⟨_,⟨rfl,rfl⟩,rfl⟩;refine Z_5 ?_;refine Zra ?_;exact de
abbrev hiC(A:Option Addr)(c:Nat)(l:List HI):bL:=slv 290 5 A l.length c (l.flatMap HI.cells)
theorem hi_snoc{A:Option Addr}{c:Nat}{l:List HI}{i:HI}:slv 290 5 A (l.length+1) c (l.flatMap HI.cells++i.cells)=hiC A c (l++[i]):=by
 show _=slv _ _ _ _ _ _;rw[ae,List.flatMap_append];simp
theorem Cp(A:Option Addr)(c:Nat)(l:List HI)(hg:gD l)(hl:l.length<=100000)(w:World)(h:RdV w 5 A l.length c (l.flatMap HI.cells)):
  Ctr prog 180 [.slice A l.length c] w [] (λv cs=>∃A' c',v= .tuple #[.slice A' (cI l).length c',.int .i64 0]/\cs=[sl .u8 5 A' (cI l).length c' (cI l)]):=by
 refine bN func180 rfl ntmps180 rfl (Inv.start w) ?_;refine gy ?_;refine dC 5 1 ?_;refine Z_6 ?_;refine cq (λq:Nat×Option Addr×Nat=>[(4,.slice q.2.1 (cI (l.take q.1)).length q.2.2),(7,.slice A l.length c),(8,.int .i64 l.length),(9,.int .i64 (q.1:Int))]) (λq=>[sl .u8 5 q.2.1 (cI (l.take q.1)).length q.2.2 (cI (l.take q.1))]) (λq=>q.1<=l.length) (λq=>l.length - q.1) (⟨0,none,0⟩) ?_ ?_ ?_ ?_
 .exact aq _
 .exact Zwk
 .exact Zu
 rintro⟨k,A1,c1⟩ hk;dsimp only at hk|-;refine Z_6 ?_;refine ZW ?_ ?_<;>intro hc3
 .simp only[aj]at hc3;obtain⟨ad,rfl⟩:=h.some_ Wq1;obtain⟨i,hx⟩:∃i,l[k]? =some i:=⟨_,ai (show k<l.length by omega)⟩;have hgi:=hg i (aD hx);have htk:l.take (k+1)=l.take k++[i]:=(by rw[List.take_add_one,hx];rfl);have hlk:(cI (l.take k)).length<=800000:=(by rw[jt,aB];omega);obtain⟨o1,o2⟩:=hgi.op;obtain⟨a1,a2⟩:=hgi.rd;obtain⟨p1,p2⟩:=hgi.ra;obtain⟨q1,q2⟩:=hgi.rb;obtain⟨m1,m2⟩:=hgi.imm;have HR:=yX i hgi;have hbe:rA i=[i.op,i.rd,i.ra,i.rb,i.imm%256,i.imm/256%256,i.imm/65536%256,i.imm/16777216%256]:=rfl;have hbs:cI (l.take (k+1))=cI (l.take k)++rA i:=(by rw[htk,AW]);have hcl:i.cells=[.int .i64 i.op,.int .i64 i.rd,.int .i64 i.ra,.int .i64 i.rb,.int .u32 i.imm]:=rfl;obtain⟨op,rd,ra,rb,im⟩:=i;dsimp only at o1 o2 a1 a2 p1 p2 q1 q2 m1 m2 hbe hcl;refine Z_6 ?_;refine uR ?_;refine dN (cz (vs:=[.int .i64 op,.int .i64 rd,.int .i64 ra,.int .i64 rb,.int .u32 im]) Zrf Zrf Zv0) (fv h (λj v hj=>fK (f:=HI.cells) Zrf (i:=j) hx hj)) rfl ?_;refine ZN λb6=>?_
  refine ZM ?_;refine Z_6 ?_;refine ZSe (λw hi=>HR w) ?_;refine Z_3 ?_;refine fS ?_;refine Z_6 ?_;refine Zy (ce rfl rfl (Zv rfl) (by first|exact IntWalk.u8_in _ ⟨by omega,by omega⟩|exact rfl)) ?_;refine Z_2 ?_;refine Zy (ce rfl rfl (Zv rfl) (by first|exact IntWalk.u8_in _ ⟨by omega,by omega⟩|exact rfl)) ?_;refine Z_2 ?_;refine Zy (ce rfl rfl (Zv rfl) (by first|exact IntWalk.u8_in _ ⟨by omega,by omega⟩|exact rfl)) ?_;refine Z_2 ?_;refine Zy (ce rfl rfl (Zv rfl) (by first|exact IntWalk.u8_in _ ⟨by omega,by omega⟩|exact rfl)) ?_;refine Z_2 ?_;refine Zy (ce rfl rfl (Zv rfl) (show IntKind.u8.wrap im=im%256 from by rw[IntKind.wrap_u8])) ?_;refine Z_2 ?_;refine Zy (ko (Zv rfl) (Zv rfl) Wq1 (show _=im/256 from by show im.fdiv 256=_;rw[bl _ Wq5])) ?_;refine Zy (ce rfl rfl (Zv rfl) (show IntKind.u8.wrap (im/256)=im/256%256 from by rw[IntKind.wrap_u8])) ?_;refine Z_2 ?_;refine Zy (ko (Zv rfl) (Zv rfl) Wq1 (show _=im/65536 from by show im.fdiv 65536=_;rw[bl _ Wq5])) ?_;refine Zy (ce rfl rfl (Zv rfl) (show IntKind.u8.wrap (im/65536)=im/65536%256 from by rw[IntKind.wrap_u8])) ?_;refine Z_2 ?_;refine Zy (ko (Zv rfl) (Zv rfl) Wq1 (show _=im/16777216 from by show im.fdiv 16777216=_;rw[bl _ Wq5])) ?_;refine Zy (ce rfl rfl (Zv rfl) (show IntKind.u8.wrap (im/16777216)=im/16777216%256 from by rw[IntKind.wrap_u8])) ?_;refine jO ?_;rintro _ _ ⟨b44,rfl,rfl⟩;refine gj (cD (e:=5) (sz:=1) (bytes:=1) rfl rfl Za rfl rfl (λw hi=>hi.rd (show Has _ (slv 5 1 (some ⟨b44,0,none⟩) 8 8 (ints .u8 (rA ⟨op,rd,ra,rb,im⟩)))from Zh)) cN gS Wq1) rfl ?_;rintro _ _ ⟨A2,c2,rfl,rfl⟩;rw[cj,<-hbs,show(cI (l.take k)).length+8=(cI (l.take (k+1))).length from by rw[hbs,ae];rfl];refine Z_5 ?_;refine Wq8 ?_;refine bX ((⟨k+1,A2,c2⟩:Nat×Option Addr×Nat)) ?_ ?_ ?_
  .exact⟨by omega,by omega⟩
  .exact Zwk
  exact Zj
 simp only[ah]at hc3;obtain rfl:k=l.length:=by omega
 rw[bn];refine jd ?_;refine rx (cs':=[slv _ _ _ _ _ _]) (.inl rfl) Zu rfl rfl rfl ?_;exact⟨_,_,rfl,rfl⟩
end Go.Proofs.YtkegldppffignaaGreatDoor
namespace Go.Ink
open Go.RowKit
def r64(l:List Int):Prop:=∀x,x∈l->0<=x/\x<=18446744073709551615
theorem rP{l:List Int}(h:r64 l)(n:Nat):0<=l.getD n 0/\l.getD n 0<=18446744073709551615:=by
 rw[aF];by_cases hn:n<l.length
 .rw[ai hn];exact h _ (List.getElem_mem hn)
 rw[List.getElem?_eq_none Wq1];exact⟨by decide,by decide⟩
structure HM.ok(m:HM):Prop where
 rl:m.Na.length=16
 wl:m.words.length=256
 r:r64 m.Na
 w:wds m.words
 pc:0<=m.pc
theorem AK{l:List Int}{n:Nat}{v x:Int}(h:x∈l.set n v):x∈l\/x=v:=List.mem_or_eq_of_mem_set h
theorem DL{op a b:Int}(ha:0<=a/\a<=18446744073709551615)(hb:0<=b/\b<=18446744073709551615):0<=fc op a b/\fc op a b<=18446744073709551615:=by
 have hw:∀z:Int,0<=IntKind.u64.wrap z/\IntKind.u64.wrap z<=18446744073709551615:=λz=>by rw[aQ];omega
 have ht:∀c:Bool,0<=b2i c/\b2i c<=18446744073709551615:=λc=>by cases c<;>decide
 obtain⟨x,rfl⟩:∃x:Nat,a=x:=ar ha.1;obtain⟨y,rfl⟩:∃y:Nat,b=y:=ar hb.1;have hx:x<18446744073709551616:=by omega
 have hy:y<18446744073709551616:=by omega
 have h1:x&&&y<=x:=Nat.and_le_left;have h2:x|||y<2^64:=Nat.or_lt_two_pow hx hy
 have h3:x^^^y<2^64:=Nat.xor_lt_two_pow hx hy;have bp:∀{c:Bool} {u v:Int},(0<=u/\u<=18446744073709551615)->(0<=v/\v<=18446744073709551615)->0<=(bif c then u else v)/\(bif c then u else v)<=18446744073709551615:=λ{c u v} h k=>by cases c;exact k;exact h
 have hsh:0<=(x:Int).fdiv (2^(min ((y:Int)).toNat IntKind.u64.bits))/\(x:Int).fdiv (2^(min ((y:Int)).toNat IntKind.u64.bits))<=18446744073709551615:=by
  rw[aP,bl _ (by exact Int.le_of_lt (Int.pow_pos Wq5))];have e:((x:Int)/2^(min y IntKind.u64.bits))=((x/2^(min y IntKind.u64.bits):Nat):Int):=by simp
  have h4:x/2^(min y IntKind.u64.bits)<=x:=Nat.div_le_self _ _;rw[e];obtain⟨q,hq⟩:=Zgn (x/2^(min y IntKind.u64.bits));rw[hq]at h4|-;omega
 unfold fc;exact bp ha (bp (hw _) (bp (hw _) (bp (by rw[IZ hx hy];omega) (bp (by rw[or64 hx hy];omega) (bp (by rw[C6 hx hy];omega) (bp (hw _) (bp hsh (bp (hw _) (bp (bp ⟨by omega,by omega⟩ (hw _)) (bp (ht _) (ht _)))))))))))
theorem hdo_ok{i:HI}{m:HM}(hi:i.NJ)(h:m.ok):(hdo i m).2.ok:=by
 have hset:∀(n:Nat) (v:Int),(0<=v/\v<=18446744073709551615)->HM.ok ⟨m.Na.set n v,m.words,m.pc+1⟩:=λn v hv=>
  ⟨by show(m.Na.set n v).length=16;rw[aC,h.rl],h.wl,λx hx=>by rcases AK hx with q|q;exact h.r x q;rw[q];exact hv,h.w,by have:=h.pc;show 0<=m.pc+1;omega⟩
 have hnx:HM.ok ⟨m.Na,m.words,m.pc+1⟩:=⟨h.rl,h.wl,h.r,h.w,by have:=h.pc;show 0<=m.pc+1;omega⟩;obtain⟨i1,i2⟩:=hi.imm;unfold hdo;cases i.op==0 with
 |true=>exact hnx
 |false=>cases i.op==1 with
  |true=>exact hset _ _ ⟨i1,by omega⟩
  |false=>cases i.op==14||i.op==15 with
   |true=>
    cases decide ((m.words.length:Int)<=pI m.Na i)with
    |true=>exact h
    |false=>cases i.op==14 with
     |true=>exact hset _ _ (by have:=iU h.w (pI m.Na i).toNat;omega)
     |false=>exact⟨h.rl,by show(m.words.set _ _).length=256;rw[aC,h.wl],h.r,λx hx=>by rcases AK hx with q|q;exact h.w x q;rw[q];exact Fg _,by have:=h.pc;show 0<=m.pc+1;omega⟩
   |false=>cases i.op==16||i.op==17 with
    |true=>
     refine⟨h.rl,h.wl,h.r,h.w,?_⟩;show 0<=(bif(rg m.Na i.ra==0)==(i.op==16)then i.imm else m.pc+1);have:=h.pc;cases(rg m.Na i.ra==0)==(i.op==16)with
     |true=>exact i1
     |false=>show 0<=m.pc+1;omega
    |false=>cases i.op==18 with
     |true=>exact⟨h.rl,h.wl,h.r,h.w,i1⟩
     |false=>cases i.op==19 with
      |true=>exact h
      |false=>exact hset _ _ (DL (rP h.r _) (rP h.r _))
theorem Cn{C:List HI}{m:HM}(hC:gD C)(h:m.ok):(MX C m).2.ok:=by
 unfold MX;cases hd:decide (m.pc<0)||decide ((C.length:Int)<=m.pc)with
 |true=>exact h
 |false=>
  simp only[bz,ah]at hd;have hlt:m.pc.toNat<C.length:=by omega
  refine hdo_ok (hC _ ?_) h;rw[aF,ai hlt];exact List.getElem_mem hlt
abbrev jr(R:List Int)(bw:Nat)(Ac:Option Addr)(n cc:Nat)(pc:Int):List Value:=ints .u64 R++[.slice (some ⟨bw,0,none⟩) 256 256,.slice Ac n cc,.int .i64 pc]
section
variable {R:List Int} {bw n cc:Nat} {Ac:Option Addr} {pc:Int}
theorem Mu(h:R.length=16):(jr R bw Ac n cc pc).length=19:=by simp[ints,h]
theorem hm_at(h:R.length=16)(k:Nat):(jr R bw Ac n cc pc)[16+k]? =[Value.slice (some ⟨bw,0,none⟩) 256 256,.slice Ac n cc,.int .i64 pc][k]? :=by
 rw[bC (by simp[ints,h]),cQ,h];congr 1;omega
theorem Hv(h:R.length=16):(jr R bw Ac n cc pc)[16]? =some (.slice (some ⟨bw,0,none⟩) 256 256):=hm_at h 0
theorem hm_c(h:R.length=16):(jr R bw Ac n cc pc)[17]? =some (.slice Ac n cc):=hm_at h 1
theorem hm_p(h:R.length=16):(jr R bw Ac n cc pc)[18]? =some (.int .i64 pc):=hm_at h 2
theorem hm_r(h:R.length=16){k:Nat}(hk:k<16):(jr R bw Ac n cc pc)[k]? =some (.int .u64 (R.getD k 0)):=by
 rw[bG (by simp[ints,h];exact hk),nM Wq1,aF,ai Wq1];rfl
theorem xo(h:R.length=16){k:Nat}(hk:k<16)(v:Int):(jr R bw Ac n cc pc).set k (.int .u64 v)=jr (R.set k v) bw Ac n cc pc:=by
 show(ints .u64 R++_).set k _=ints .u64 (R.set k v)++_;rw[List.set_append_left _ _ (by simp[ints,h];exact hk)];simp[ints,List.map_set]
theorem Hw(h:R.length=16)(p:Int):(jr R bw Ac n cc pc).set 18 (.int .i64 p)=jr R bw Ac n cc p:=by
 show(ints .u64 R++_).set 18 _=_;rw[List.set_append_right _ _ (by simp[ints,h]),cQ,h];rfl
theorem hm_setc(h:R.length=16)(A:Option Addr)(m c:Nat):(jr R bw Ac n cc pc).set 17 (.slice A m c)=jr R bw A m c pc:=by
 show(ints .u64 R++_).set 17 _=_;rw[List.set_append_right _ _ (by simp[ints,h]),cQ,h];rfl
end
end Go.Ink
namespace Go.Proofs.YtkegldppffignaaGreatDoor
open Go.RowKit Go.Ink Go.Proofs.Tryz
attribute [local irreducible] OpY bS
theorem Ec(A:Option Addr)(c:Nat)(i:HI)(hg:i.NJ)(w:World)(h:Rd w .u8 A 8 c (rA i)):
  Ctr prog 235 [.slice A 8 c] w [] (λv cs=>v= .tuple #[hiv i,.int .i64 0]/\cs=[]):=by
 obtain⟨ad,rfl⟩:=h.some_ Wq5;have HR:=yX i hg;obtain⟨o1,o2⟩:=hg.op;obtain⟨a1,a2⟩:=hg.rd;obtain⟨p1,p2⟩:=hg.ra;obtain⟨q1,q2⟩:=hg.rb;obtain⟨m1,m2⟩:=hg.imm;obtain⟨op,rd,ra,rb,im⟩:=i;dsimp only at o1 o2 a1 a2 p1 p2 q1 q2 m1 m2;obtain⟨m,rfl⟩:∃m:Nat,im=m:=ar m1;have hib:=K0 (show m<4294967296 by omega);have hbe:rA ⟨op,rd,ra,rb,(m:Int)⟩=[op,rd,ra,rb,((m%256:Nat):Int),((m/256%256:Nat):Int),((m/65536%256:Nat):Int),((m/16777216%256:Nat):Int)]:=rfl;rw[hbe]at h;refine bN func235 rfl ntmps235 rfl (Inv.start w) ?_;refine Z_2 ?_;refine ZN λb2=>?_;refine fE ?_;refine fS ?_;refine Z_3 ?_;refine bU ⟨λj=>List.elem j [40],[]⟩ Zk ?_;refine ZE 0 ?_;refine cG 1 rfl Zk Zk Zk (dX (j:=0) rfl Zrf (Zv rfl) (Zv rfl) Wq4 Wq4) rfl ?_;refine dD 2 rfl Zk Zk Zk Zk (bQ Zrf Zv0) (eo h (cR (j:=0) rfl)) rfl ?_;refine cG 3 rfl Zk Zk Zk (ce rfl rfl Zv0 Zl) rfl ?_;refine ZE 4 ?_;refine cG 5 rfl Zk Zk Zk (dX (j:=1) rfl Zrf (Zv rfl) (Zv rfl) Wq4 Wq4) rfl ?_;refine dD 6 rfl Zk Zk Zk Zk (bQ Zrf Zv0) (eo h (cR (j:=1) rfl)) rfl ?_;refine cG 7 rfl Zk Zk Zk (ce rfl rfl Zv0 Zl) rfl ?_;refine ZE 8 ?_;refine cG 9 rfl Zk Zk Zk (dX (j:=2) rfl Zrf (Zv rfl) (Zv rfl) Wq4 Wq4) rfl ?_;refine dD 10 rfl Zk Zk Zk Zk (bQ Zrf Zv0) (eo h (cR (j:=2) rfl)) rfl ?_;refine cG 11 rfl Zk Zk Zk (ce rfl rfl Zv0 Zl) rfl ?_;refine ZE 12 ?_;refine cG 13 rfl Zk Zk Zk (dX (j:=3) rfl Zrf (Zv rfl) (Zv rfl) Wq4 Wq4) rfl ?_;refine dD 14 rfl Zk Zk Zk Zk (bQ Zrf Zv0) (eo h (cR (j:=3) rfl)) rfl ?_;refine cG 15 rfl Zk Zk Zk (ce rfl rfl Zv0 Zl) rfl ?_;refine ZE 16 ?_;refine cG 17 rfl Zk Zk Zk (dX (j:=4) rfl Zrf (Zv rfl) (Zv rfl) Wq4 Wq4) rfl ?_;refine dD 18 rfl Zk Zk Zk Zk (bQ Zrf Zv0) (eo h (cR (j:=4) rfl)) rfl ?_;refine cG 19 rfl Zk Zk Zk (ce rfl rfl (Zv rfl) (by first|exact IntWalk.u32_in _ ⟨by omega,by omega⟩|exact rfl)) rfl ?_;refine ZE 20 ?_;refine cG 21 rfl Zk Zk Zk (dX (j:=5) rfl Zrf (Zv rfl) (Zv rfl) Wq4 Wq4) rfl ?_;refine dD 22 rfl Zk Zk Zk Zk (bQ Zrf Zv0) (eo h (cR (j:=5) rfl)) rfl ?_;refine cG 23 rfl Zk Zk Zk (ce rfl rfl (Zv rfl) (by first|exact IntWalk.u32_in _ ⟨by omega,by omega⟩|exact rfl)) rfl ?_;refine cG 24 rfl Zk Zk Zk (v7 (Zv rfl) (Zv rfl) Wq1 rfl) rfl ?_;refine ZE 25 ?_;refine ZE 26 ?_;refine cG 27 rfl Zk Zk Zk (dX (j:=6) rfl Zrf (Zv rfl) (Zv rfl) Wq4 Wq4) rfl ?_;refine dD 28 rfl Zk Zk Zk Zk (bQ Zrf Zv0) (eo h (cR (j:=6) rfl)) rfl ?_;refine cG 29 rfl Zk Zk Zk (ce rfl rfl (Zv rfl) (by first|exact IntWalk.u32_in _ ⟨by omega,by omega⟩|exact rfl)) rfl ?_;refine cG 30 rfl Zk Zk Zk (v7 (Zv rfl) (Zv rfl) Wq1 rfl) rfl ?_;refine ZE 31 ?_;refine ZE 32 ?_;refine cG 33 rfl Zk Zk Zk (dX (j:=7) rfl Zrf (Zv rfl) (Zv rfl) Wq4 Wq4) rfl ?_;refine dD 34 rfl Zk Zk Zk Zk (bQ Zrf Zv0) (eo h (cR (j:=7) rfl)) rfl ?_;refine cG 35 rfl Zk Zk Zk (ce rfl rfl (Zv rfl) (by first|exact IntWalk.u32_in _ ⟨by omega,by omega⟩|exact rfl)) rfl ?_;refine cG 36 rfl Zk Zk Zk (v7 (Zv rfl) (Zv rfl) Wq1 rfl) rfl ?_;refine cG 37 rfl Zk Zk Zk (CX Zv0 Zv0 hib) rfl ?_;refine ZE 38 ?_;refine cn 39 Zk ?_;refine ZP λb4=>?_
 refine cn 40 Zk ?_;refine ZR ?_;refine dx ?_;refine Z_5 ?_;refine ZSe (λw hi=>HR w) ?_;refine Z_3 ?_;refine fS ?_;refine Z_5 ?_;refine ZM ?_;refine Z_4 ?_;refine lS (cs':=[]) (.inl rfl) Zu rfl rfl rfl Zh Zrf Zrf ?_;exact de
theorem hb_take(i:HI)(l:List HI):(cI (i::l)).take 8=rA i:=by
 show(rA i++cI l).take 8=_;exact List.take_left' rfl
theorem hb_drop(i:HI)(l:List HI):(cI (i::l)).drop 8=cI l:=by
 show(rA i++cI l).drop 8=_;exact List.drop_left' rfl
theorem hall_ok(A:Option Addr)(c:Nat)(l:List HI)(hg:gD l)(hl:l.length<=100000)(w:World)(h:Rd w .u8 A (cI l).length c (cI l)):
  Ctr prog 185 [.slice A (cI l).length c] w [] (λv cs=>∃A' c',v= .tuple #[.slice A' l.length c',.int .i64 0]/\cs=[hiC A' c' l]):=by
 refine bN func185 rfl ntmps185 rfl (Inv.start w) ?_;refine Z_8 ?_;refine dC 290 5 ?_;refine Z_5 ?_;refine cq (λq:Nat×(Option Addr×Nat)×(Option Addr×Nat)=>[(0,.slice q.2.1.1 (cI (l.drop q.1)).length q.2.1.2),(4,.slice q.2.2.1 (l.take q.1).length q.2.2.2)]) (λq=>[hiC q.2.2.1 q.2.2.2 (l.take q.1)]) (λq=>q.1<=l.length/\Rd w .u8 q.2.1.1 (cI (l.drop q.1)).length q.2.1.2 (cI (l.drop q.1))) (λq=>l.length - q.1) (⟨0,⟨A,c⟩,⟨none,0⟩⟩) ?_ ?_ ?_ ?_
 .exact⟨aq _,h⟩
 .exact Zwk
 .exact Zu
 rintro⟨k,⟨A1,c1⟩,⟨A2,c2⟩⟩ ⟨hk,h1⟩;dsimp only at hk h1|-;have hcap:=h1.cap;have hmx:=h1.max;simp only[maxLen]at hmx;have hlk:(l.take k).length=k:=(by rw[aB];omega);refine Z_8 ?_;refine ZW ?_ ?_<;>intro hc2
 .simp only[aj]at hc2;have hkl:k<l.length:=(by rw[jt,bI]at hc2;omega);obtain⟨i,hx⟩:∃i,l[k]? =some i:=⟨_,ai hkl⟩;have hgi:=hg i (aD hx);have htk:l.take (k+1)=l.take k++[i]:=(by rw[List.take_add_one,hx];rfl);have hdr:l.drop k=i::l.drop (k+1):=(by obtain⟨q1,q2⟩:=au.1 hx;rw[<-q2];exact List.drop_eq_getElem_cons q1);have hn8:(cI (l.drop k)).length=8+(cI (l.drop (k+1))).length:=(by rw[hdr];show(rA i++_).length=_;rw[ae];rfl);have h2:=jo h1 8;rw[hdr,hb_take]at h2;have HD:=Ec A1 c1 i hgi;have h3:=h1.cut (lo:=8) (hi:=(cI (l.drop k)).length) Wq1 (aM _);have e3:((ints .u8 (cI (l.drop k))).take (cI (l.drop k)).length).drop 8=ints .u8 (cI (l.drop (k+1))):=(by rw[List.take_of_length_le (by simp[ints]),hdr];show((cI (i::l.drop (k+1))).map _).drop 8=_;rw[<-List.map_drop,hb_drop];rfl);rw[e3,show(cI (l.drop k)).length - 8=(cI (l.drop (k+1))).length by omega]at h3;have htl:(l.take (k+1)).length=k+1:=(by rw[aB];omega);obtain⟨N,hN⟩:=Zgn ((cI (l.drop k)).length);rw[hN]at hn8 h1 hcap|-;refine Z_8 ?_;refine Zy (y_min (Zv rfl) (Zv rfl) (show _=((8:Nat):Int)from by split<;>omega)) ?_;refine Zy (ge 8 rfl Zrf (Zv rfl) (Zv rfl) (λ_=>by first|rfl|omega) Wq4) ?_;refine ZSe (λw hi=>HD w (h2.MZ hi)) ?_;refine Z_3 ?_;refine ZN λb5=>?_
  refine ZM ?_;refine dS ?_;refine fS ?_;refine Z_6 ?_;refine ro ?_;rintro _ _ ⟨b24,rfl,rfl⟩;refine gj (cD (e:=290) (sz:=5) (bytes:=40) rfl rfl Za rfl rfl (λw hi=>hi.rd (show Has _ (slv 290 5 (some ⟨b24,0,none⟩) 1 1 i.cells)from Zh)) (jA rfl) gS Wq1) rfl ?_;rintro _ _ ⟨A3,c3,rfl,rfl⟩;rw[hi_snoc,<-htk,show(l.take k).length+1=(l.take (k+1)).length by omega];refine Z_5 ?_;refine Zy (sc (lo:=8) (hi:=N) rfl Zrf (Zv rfl) (.inr ⟨_,_,rfl,(Zv rfl)⟩) (.inl ⟨rfl,rfl⟩) Wq1 Wq1) ?_;rw[show N - 8=(cI (l.drop (k+1))).length from by omega];refine Z_3 ?_;refine dW ((⟨k+1,⟨if c1=8 then A1 else A1.map (·.add (8*1)),c1 - 8⟩,⟨A3,c3⟩⟩:Nat×(Option Addr×Nat)×(Option Addr×Nat))) ?_ ?_ ?_
  .exact⟨⟨by omega,h3⟩,by omega⟩
  .exact Zwk
  exact Zu
 simp only[ah]at hc2;obtain rfl:k=l.length:=(by rw[jt,bI]at hc2;omega);rw[bn];refine jd ?_;refine rx (cs':=[slv _ _ _ _ _ _]) (.inl rfl) Zu rfl rfl rfl ?_;exact⟨_,_,rfl,rfl⟩
theorem yV(b:Bool)(w:World):Ctr prog 262 [.bool b] w [] (λv cs=>v= .int .u64 (b2i b)/\cs=[]):=by
 refine bN func262 rfl ntmps262 rfl (Inv.start w) ?_;refine fE ?_;refine ZW ?_ ?_<;>intro hc1
 .subst hc1;refine Z_7 ?_;refine Zra ?_;exact de
 subst hc1;refine fX ?_;exact de
theorem Eb(op a b:Int)(ha:0<=a/\a<=18446744073709551615)(hb:0<=b/\b<=18446744073709551615)(w:World):Ctr prog 236 [.int .i64 op,.int .u64 a,.int .u64 b] w [] (λv cs=>v= .int .u64 (fc op a b)/\cs=[]):=by
 refine bN func236 rfl ntmps236 rfl (Inv.start w) ?_;refine Bn ?_;refine ZW ?_ ?_<;>intro hc2
 .refine Z_9 ?_;refine Zra ?_;refine⟨?_,rfl⟩;simp only[fc, *,ac,aa]
 refine Z_6 ?_;refine ZW ?_ ?_<;>intro hc4
 .refine Z_4 ?_;refine Zy (df Zv0 Zv0 rfl) ?_;refine Z_6 ?_;refine Zra ?_;refine⟨?_,rfl⟩;simp only[fc, *,ac,aa]
 refine Z_6 ?_;refine ZW ?_ ?_<;>intro hc6
 .refine Z_4 ?_;refine Zy (eE Zv0 Zv0 rfl) ?_;refine Z_6 ?_;refine Zra ?_;refine⟨?_,rfl⟩;simp only[fc, *,ac,aa]
 refine Z_6 ?_;refine ZW ?_ ?_<;>intro hc8
 .refine fE ?_;refine Zra ?_;refine⟨?_,rfl⟩;simp only[fc, *,ac,aa]
 refine Z_6 ?_;refine ZW ?_ ?_<;>intro hc10
 .refine fE ?_;refine Zra ?_;refine⟨?_,rfl⟩;simp only[fc, *,ac,aa]
 refine Z_6 ?_;refine ZW ?_ ?_<;>intro hc12
 .refine fE ?_;refine Zra ?_;refine⟨?_,rfl⟩;simp only[fc, *,ac,aa]
 refine Z_6 ?_;refine ZW ?_ ?_<;>intro hc14
 .refine Z_4 ?_;refine Zy (v7 (Zv rfl) (Zv rfl) Wq1 rfl) ?_;refine Z_6 ?_;refine Zra ?_;refine⟨?_,rfl⟩;simp only[fc, *,ac,aa]
 refine Z_6 ?_;refine ZW ?_ ?_<;>intro hc16
 .refine Z_4 ?_;refine Zy (ko (Zv rfl) (Zv rfl) Wq1 rfl) ?_;refine Z_6 ?_;refine Zra ?_;refine⟨?_,rfl⟩;simp only[fc, *,ac,aa]
 refine Z_6 ?_;refine ZW ?_ ?_<;>intro hc18
 .refine Z_4 ?_;refine Zy (jk Zv0 Zv0 rfl) ?_;refine Z_6 ?_;refine Zra ?_;refine⟨?_,rfl⟩;simp only[fc, *,ac,aa]
 refine Z_6 ?_;refine ZW ?_ ?_<;>intro hc20
 .refine Z_7 ?_;refine ZW ?_ ?_<;>intro hc21
  .refine Z_9 ?_;refine Zra ?_;refine⟨?_,rfl⟩;simp only[fc, *,ac,aa]
  have hb0:b≠0:=ne_of_beq_false hc21;refine Z_6 ?_;refine Zy (kp (Zv rfl) (Zv rfl) Wq1 rfl) ?_;refine Z_6 ?_;refine Zra ?_;refine⟨?_,rfl⟩;simp only[fc, *,ac,aa]
 refine Z_6 ?_;refine ZW ?_ ?_<;>intro hc24
 .refine Z_5 ?_;refine ZSe (λw hi=>yV _ w) ?_;refine Z_6 ?_;refine Zra ?_;refine⟨?_,rfl⟩;simp only[fc, *,ac,aa]
 refine Z_8 ?_;refine ZSe (λw hi=>yV _ w) ?_;refine Z_4 ?_;refine Zra ?_;refine⟨?_,rfl⟩;simp only[fc, *,ac,aa]
end Go.Proofs.YtkegldppffignaaGreatDoor
