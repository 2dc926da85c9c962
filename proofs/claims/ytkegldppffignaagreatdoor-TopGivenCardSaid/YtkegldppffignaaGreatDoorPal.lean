/- Lemmas. -/
import Derived.Test.YtkegldppffignaaGreatDoorPaa
import Derived.Test.YtkegldppffignaaGreatDoorPab
import Derived.Test.YtkegldppffignaaGreatDoorPak
set_option linter.unusedSimpArgs false
set_option linter.unusedVariables false
set_option maxRecDepth 100000
set_option maxHeartbeats 4000000
namespace Go.Ink
open Go.RowKit
def ka(W:List Int)(from_:Nat)(l:List Int):Nat->List Int
 |0=>W
 |k+1=>(ka W from_ l k).set (from_+k) (l.getD k 0)
def Nl(s:St):List Int:=(ka (ka (((((List.replicate 256 (0:Int)).set 0 s.pc).set 1 s.flags).set 2 (s.d.length:Int)).set 3 (s.r.length:Int)) 4 s.d 16) 20 s.r 16).set 36 0
theorem kA(W:List Int)(f:Nat)(l:List Int):∀k,(ka W f l k).length=W.length
 |0=>rfl
 |k+1=>by show((ka W f l k).set _ _).length=_;rw[aC,kA W f l k]
theorem xl(W:List Int)(f:Nat)(l:List Int):∀k,f+k<=W.length->∀j,j<k->(ka W f l k).getD (f+j) 0=l.getD j 0
 |0,_,j,hj=>absurd hj Wq1
 |k+1,hk,j,hj=>by
  show((ka W f l k).set (f+k) (l.getD k 0)).getD (f+j) 0=_;by_cases e:j=k
  .subst e;exact cV (by rw[kA];omega)
  rw[cF Wq1];exact xl W f l k Wq1 j Wq1
theorem iA(W:List Int)(f:Nat)(l:List Int):∀k,∀j,(j<f\/f+k<=j)->(ka W f l k).getD j 0=W.getD j 0
 |0,_,_=>rfl
 |k+1,j,hj=>by
  show((ka W f l k).set (f+k) (l.getD k 0)).getD j 0=_;rw[cF Wq1];exact iA W f l k j Wq1
theorem BX(s:St):(Nl s).length=256:=by unfold Nl;simp[kA]
theorem Kh(s:St):(Nl s).getD 0 0=s.pc/\(Nl s).getD 1 0=s.flags/\(Nl s).getD 2 0=s.d.length/\(Nl s).getD 3 0=s.r.length:=by
 unfold Nl;refine⟨?_,?_,?_,?_⟩
 .rw[cF Wq5,iA _ _ _ _ _ Wq1,iA _ _ _ _ _ Wq1,cF Wq5,cF Wq5,cF Wq5];exact cV cE
 .rw[cF Wq5,iA _ _ _ _ _ Wq1,iA _ _ _ _ _ Wq1,cF Wq5,cF Wq5];exact cV cE
 .rw[cF Wq5,iA _ _ _ _ _ Wq1,iA _ _ _ _ _ Wq1,cF Wq5];exact cV cE
 rw[cF Wq5,iA _ _ _ _ _ Wq1,iA _ _ _ _ _ Wq1];exact cV cE
theorem Mj(s:St)(j:Nat)(hj:j<16):(Nl s).getD (4+j) 0=s.d.getD j 0:=by
 unfold Nl;rw[cF Wq1,iA _ _ _ _ _ Wq1];exact xl _ _ _ _ cE j hj
theorem Mh(s:St)(j:Nat)(hj:j<16):(Nl s).getD (20+j) 0=s.r.getD j 0:=by
 unfold Nl;rw[cF Wq1];exact xl _ _ _ _ (by simp[kA]) j hj
def Pg.NW(p:Pg)(V:List Int)(f0:Int):Int:=bif decide (0<=p.flags)then V.getD p.flags.toNat 0%16 else f0
def Pg.NK(p:Pg)(V:List Int)(f:Int):Int:=bif decide (0<=p.target)then V.getD p.target.toNat 0 else bif(cY p.branch f).1 then p.taken else p.next
section
variable {C l:List HI} {k:Nat} {R W:List Int} {M:HM} {pl:Pl} {T V:List Int} {N:Nat}
theorem HGo.pos{pre:List HI}(h:HGo C k l R W M)(hl:l≠[])(hC:C=pre++l):k=pre.length:=by
 have h1:=congrArg List.length h.at_;have h2:=congrArg List.length hC;rw[bI]at h1;rw[ae]at h2;have h3:0<l.length:=List.length_pos_iff.2 hl;omega
theorem CV.mono{R' W':List Int}(hp:I9 pl T N)(h:CV pl T V N R W)(hs:∀j,j<7->R'.getD j 0=R.getD j 0)(hw:∀j,64<=j->W'.getD j 0=W.getD j 0):CV pl T V N R' W':=λa ha ht=>by
 have h1:=h a ha ht;have h2:=hp.has a ha;refine⟨λhi=>?_,λhi=>?_⟩
 .have q1:0<=pl.r a:=by unfold Pl.inR at hi;simpa using hi
  have q2:pl.r a<7:=by rcases h2 with⟨-,q⟩|⟨q, -⟩;exact q;rw[hi]at q;cases q
  rw[hs _ Wq1];exact h1.1 hi
 rw[hw _ Wq1];exact h1.2 hi
theorem HGo.take7{n:Int}(hp:I9 pl T N)(hV:wds V)(h:HGo C k (jN pl n 7++l) R W M)(h15:R.getD 15 0=0)(hh:CV pl T V N R W)(hn:0<=n/\n<N/\(N:Int)<=T.getD n.toNat 0):
  ∃k' R' r,HGo C k' l R' W M/\et pl n 7=(r:Nat)/\r<9/\R'.getD r 0=V.getD n.toNat 0/\kJ [7] R R':=by
 obtain⟨n0,n1,n2⟩:=hn;have en:((n.toNat:Nat):Int)=n:=by omega
 have h1:=hp.has n.toNat Wq1;have h2:=hh n.toNat Wq1 n2;rw[en]at h1 h2;obtain⟨r,hr,hr2⟩:=lZ h1 (into:=7) Wq1;have hr:et pl n 7=(r:Int):=hr;obtain⟨k1,R1,g1,g2,g3⟩:=HGo.get (into:=7) h h1 Wq1 hr h15 h2;exact⟨k1,R1,r,g1,hr,by rcases hr2 with⟨q, -⟩|⟨q, -⟩<;>omega,g2,g3⟩
theorem LU{v:Nat}(hv:v<4294967296):bits .and .u64 15 (v:Int)=(v:Int)%16:=by
 have h1:=IZ (a:=15) (b:=v) Wq5 Wq1;rw[show((15:Nat):Int)=15 from rfl]at h1;rw[h1,Nat.and_comm,show(15:Nat)=2^4 - 1 from rfl,Nat.and_two_pow_sub_one_eq_mod];omega
theorem Lg:∀f:Nat,f<16->(bits .and .u64 (f:Int) 1=bits .and .u32 (f:Int) 1/\bits .and .u64 (f:Int) 2=bits .and .u32 (f:Int) 2/\bits .and .u64 (f:Int) 4=bits .and .u32 (f:Int) 4/\bits .and .u64 (f:Int) 8=bits .and .u32 (f:Int) 8):=by decide+kernel
theorem Hd{op f:Int}(hop:33<=op/\op<=37)(hf:0<=f/\f<=15):(cY op f).1=(bif ip op then bits .and .u64 f (fU op) !=0 else bits .and .u64 f (fU op)==0):=by
 obtain⟨n,rfl⟩:∃n:Nat,f=n:=ar hf.1;obtain⟨h1,h2,h3,h4⟩:=Lg n Wq1;have h:op=33\/op=34\/op=35\/op=36\/op=37:=by omega
 rcases h with rfl|rfl|rfl|rfl|rfl
 .show(bits .and .u32 (n:Int) 1 !=0)=(bits .and .u64 (n:Int) 1 !=0);rw[h1]
 .show(bits .and .u32 (n:Int) 1==0)=(bits .and .u64 (n:Int) 1==0);rw[h1]
 .show(bits .and .u32 (n:Int) 4 !=0)=(bits .and .u64 (n:Int) 4 !=0);rw[h3]
 .show(bits .and .u32 (n:Int) 2 !=0)=(bits .and .u64 (n:Int) 2 !=0);rw[h2]
 show(bits .and .u32 (n:Int) 8 !=0)=(bits .and .u64 (n:Int) 8 !=0);rw[h4]
theorem HGo.flagsEnd{p:Pg}{f0:Int}(hp:I9 pl T N)(hV:wds V)(h:HGo C k (gX p pl++l) R W M)(h15:R.getD 15 0=0)(hh:CV pl T V N R W)(hf:0<=p.flags->p.flags<N/\(N:Int)<=T.getD p.flags.toNat 0)(h1:W.getD 1 0=f0):
  ∃k' R' W',HGo C k' l R' W' M/\kJ [7,11] R R'/\W'.getD 1 0=p.NW V f0/\∀i,i≠1->W'.getD i 0=W.getD i 0:=by
 unfold gX at h;unfold Pg.NW;by_cases hd:0<=p.flags
 .rw[ax hd]at h|-;have h:HGo C k (⟨1,11,0,0,15⟩::(jN pl p.flags 7++(⟨5,11,11,et pl p.flags 7,0⟩::⟨15,0,15,11,1⟩::l))) R W M:=by
   have e:(⟨1,11,0,0,15⟩::(jN pl p.flags 7++[⟨5,11,11,et pl p.flags 7,0⟩,⟨15,0,15,11,1⟩]))++l=(⟨1,11,0,0,15⟩::(jN pl p.flags 7++(⟨5,11,11,et pl p.flags 7,0⟩::⟨15,0,15,11,1⟩::l)):List HI):=by simp
   rw[ac,e]at h;exact h
  have g0:=HGo.li (rd:=11) h;obtain⟨k1,R1,r,g1,g2,g3,g4,g5⟩:=HGo.take7 hp hV g0 (by rw[cF Wq5,h15]) (hh.mono hp (λj hj=>cF Wq1) (λ_ _=>rfl)) ⟨hd,(hf hd).1,(hf hd).2⟩;obtain⟨v,v1,v2⟩:=mz hV p.flags.toNat;rw[g2]at g1;have hl:=h.rl;have a1:=HGo.op (rd:=11) (ra:=11) (rb:=r) (v:=(v:Int)%16) g1 Wq5 Wq5 (by rw[g5 11 Wq5,cV Wq1,g4,v1];exact LU v2);have a2:=HGo.st (ra:=15) (rb:=11) (p:=1) (v:=(v:Int)%16) a1 (by rw[cF Wq5,g5 15 Wq5,cF Wq5,h15];rfl) Wq5 (by rw[cV (by rw[g1.rl];decide),aE];omega);refine⟨_,_,_,a2,?_,?_,λi hi=>cF (λe=>hi e.symm)⟩
  .intro j hj;simp only[aJ,aY,or_false,not_or]at hj;rw[cF Wq1,g5 j (by simp;omega),cF Wq1]
  rw[cV (by rw[h.wl];decide),ac,v1]
 rw[aw hd]at h|-;exact⟨k,R,W,h,kJ.refl _ _,h1,λ_ _=>rfl⟩
theorem HGo.Oh{p:Pg}{pos:Nat}{f:Int}(h:HGo C k (gI p pos++l) R W M)(hk:p.branch≠0->k=pos)(hps:pos<=100000)(h15:R.getD 15 0=0)(hf:0<=f/\f<=15)(h1:W.getD 1 0=f)(h9:R.getD 9 0=p.next)(hb:p.branch=0\/(33<=p.branch/\p.branch<=37)):
  ∃k' R',HGo C k' l R' W M/\R'.getD 9 0=(bif(cY p.branch f).1 then p.taken else p.next)/\kJ [9,11,12] R R':=by
 unfold gI at h;rcases hb with hb|hb
 .rw[hb]at h|-;exact⟨k,R,h,h9,kJ.refl _ _⟩
 rw[show(p.branch !=0)=true by simp;omega,ac]at h;have hk:=hk Wq1;have hl:=h.rl;have a1:=HGo.ld (rd:=11) (ra:=15) (p:=1) h (by rw[h15];rfl) Wq5;have a2:=HGo.li (rd:=12) a1;rw[h1]at a2;have hbit:=Hd hb hf;obtain⟨q,hq⟩:=Zgn (bits .and .u64 f (fU p.branch));rw[hq]at hbit;have a3:=HGo.op (rd:=11) (ra:=11) (rb:=12) (v:=q) a2 Wq5 Wq5 (by rw[cF Wq5,cV Wq1,cV (by rw[aC];omega)];exact hq);have e11:(((R.set 11 f).set 12 (fU p.branch)).set 11 q).getD 11 0=q:=cV (by simp only[aC];omega);have e9:(((R.set 11 f).set 12 (fU p.branch)).set 11 q).getD 9 0=p.next:=by rw[cF Wq5,cF Wq5,cF Wq5,h9]
 have ew:IntKind.u32.wrap (((pos+3:Nat):Int)+2)=((pos+5:Nat):Int):=by rw[aE];omega
 rw[ew]at a3;have hdrop:C.drop (pos+5)=l:=by
  have:=h.at_;rw[hk]at this;have h5:=congrArg (List.drop 5) this;rw[List.drop_drop]at h5;exact h5
 have same:kJ [9,11,12] R (((R.set 11 f).set 12 (fU p.branch)).set 11 q):=by
  intro j hj;simp only[aJ,aY,or_false,not_or]at hj;rw[cF Wq1,cF Wq1,cF Wq1]
 have goOn:∀{k2:Nat},HGo C k2 (⟨1,9,0,0,p.taken⟩::l) (((R.set 11 f).set 12 (fU p.branch)).set 11 q) W M->(cY p.branch f).1=true->∃k' R',HGo C k' l R' W M/\R'.getD 9 0=(bif(cY p.branch f).1 then p.taken else p.next)/\kJ [9,11,12] R R':=λg he=>by
  refine⟨_,_,HGo.li (rd:=9) g,?_,same.trans (kJ.set _ 9 _ (e:=[9]) cE) (by intro z hz;simp at hz|-;omega)⟩;rw[he];exact cV (by simp only[aC];omega)
 have stay:HGo C (pos+5) l (((R.set 11 f).set 12 (fU p.branch)).set 11 q) W M->(cY p.branch f).1=false->∃k' R',HGo C k' l R' W M/\R'.getD 9 0=(bif(cY p.branch f).1 then p.taken else p.next)/\kJ [9,11,12] R R':=λg he=>
  ⟨_,_,g,by rw[he];exact e9,same⟩
 cases hs:ip p.branch with
 |true=>
  rw[hs]at a3 hbit;have a4:=HGo.beqz (ra:=11) a3 hdrop;rw[e11]at a4;rcases a4 with⟨c,g⟩|⟨c,g⟩
  .exact goOn g (by rw[hbit];show(q !=0)=true;simpa using c)
  exact stay g (by rw[hbit];show(q !=0)=false;simpa using c)
 |false=>
  rw[hs]at a3 hbit;have a4:=HGo.bnez (ra:=11) a3 hdrop;rw[e11]at a4;rcases a4 with⟨c,g⟩|⟨c,g⟩
  .exact goOn g (by rw[hbit];show(q==0)=true;simpa using c)
  exact stay g (by rw[hbit];show(q==0)=false;simpa using c)
structure PgOk(p:Pg)(T:List Int):Prop where
 code:OkC p.MM p.MO p.code
 uses:∀(n:Nat) (x:II),p.code[n]? =some x->x.op=3\/x.op=4->(n:Int)<=T.getD x.a.toNat 0/\(n:Int)<=T.getD x.b.toNat 0
 MV:∀n,n∈p.MV->0<=n/\n<p.code.length/\(p.code.length:Int)<=T.getD n.toNat 0
 MW:∀n,n∈p.MW->0<=n/\n<p.code.length/\(p.code.length:Int)<=T.getD n.toNat 0
 flags:0<=p.flags->p.flags<p.code.length/\(p.code.length:Int)<=T.getD p.flags.toNat 0
 target:0<=p.target->p.target<p.code.length/\(p.code.length:Int)<=T.getD p.target.toNat 0
 branch:p.branch=0\/(33<=p.branch/\p.branch<=37)
 n64:p.code.length<=64
 MM:0<=p.MM/\p.MM<=16
 MO:0<=p.MO/\p.MO<=16
 Nc:0<=p.Nc/\p.Nc<=16
 Ng:0<=p.Ng/\p.Ng<=16
 next:0<=p.next/\p.next<=4294967295
 taken:0<=p.taken/\p.taken<=4294967295
 count:1<=p.count/\p.count<=8
theorem HGo.fin{p:Pg}{pos:Nat}{f0:Int}{l:List HI}(ok:PgOk p T)(hN:N=p.code.length)(hp:I9 pl T N)(hV:wds V)(h:HGo C k (rY p pl pos++l) R W M)(hk:k=pos)(hl:l≠[])(hps:pos<=10000)(h15:R.getD 15 0=0)(hh:CV pl T V N R W)(h1:W.getD 1 0=f0)(hf0:0<=f0/\f0<=15):
  M.words.getD 0 0=p.NK V (p.NW V f0)/\M.words.getD 1 0=p.NW V f0/\M.words.getD 36 0=p.count/\∀i,i≠0->i≠1->i≠36->M.words.getD i 0=W.getD i 0:=by
 subst hN;have hfl:=ok.flags;have htg:=ok.target;have hbr:=ok.branch;have hnx:=ok.next
 have htk:=ok.taken;have hct:=ok.count;have hC:C=C.take k++(rY p pl pos++l):=by rw[<-h.at_];exact(List.take_append_drop k C).symm
 obtain⟨rest,hrest⟩:∃rest,rest=jm p pl++(⟨15,0,15,9,0⟩::⟨1,11,0,0,IntKind.u32.wrap p.count⟩::⟨15,0,15,11,36⟩::⟨19,0,0,0,1⟩::l):=⟨_,rfl⟩;have e1:rY p pl pos++l=gX p pl++(⟨1,9,0,0,p.next⟩::(gI p (pos+(gX p pl).length+1)++rest)):=by
  rw[hrest];unfold rY;simp
 have hkl:C.length=k+(rY p pl pos++l).length:=by
  have h2:=h.at_;have h3:=congrArg List.length h2;rw[bI]at h3;have h4:0<(rY p pl pos++l).length:=by rw[ae];have:=List.length_pos_iff.2 hl;omega
  omega
 rw[e1]at h hkl;obtain⟨k1,R1,W1,g1,g2,g3,g4⟩:=HGo.flagsEnd hp hV h h15 hh hfl h1;have a1:=HGo.li (rd:=9) g1;have hf:0<=p.NW V f0/\p.NW V f0<=15:=by
  unfold Pg.NW;cases decide (0<=p.flags)with
  |true=>show 0<=V.getD p.flags.toNat 0%16/\V.getD p.flags.toNat 0%16<=15;omega
  |false=>exact hf0
 have hrl:=h.rl;have hfle:(gX p pl).length<=5:=by
  unfold gX;cases decide (0<=p.flags)with
  |false=>exact aq _
  |true=>
   show(_::(jN pl p.flags 7++[_,_])).length<=5;have:(jN pl p.flags 7).length<=1:=by unfold jN;cases pl.inR p.flags<;>simp
   simp;omega
 obtain⟨k2,R2,b1,b2,b3⟩:=HGo.Oh (pos:=pos+(gX p pl).length+1) a1 (λhb=>by
   have h5:k1+1=_:=rfl;have h6:=congrArg List.length a1.at_;rw[bI]at h6;have h7:0<(gI p (pos+(gX p pl).length+1)++rest).length:=by
    rw[ae];unfold gI;rw[show(p.branch !=0)=true by simpa using hb];show 0<5+_;omega
   simp only[ae,ak]at hkl h6 h7;omega) Wq1 (by rw[cF Wq5,g2 15 Wq5,h15]) hf g3 (cV (by rw[g1.rl];decide)) hbr
 have h15':R2.getD 15 0=0:=by rw[b3 15 Wq5,cF Wq5,g2 15 Wq5,h15]
 have hold2:CV pl T V p.code.length R2 W1:=hh.mono hp (λj hj=>by rw[b3 j (by simp;omega),cF Wq1,g2 j (by simp;omega)]) (λj hj=>g4 j Wq1);have tgt:∃k3 R3,HGo C k3 (⟨15,0,15,9,0⟩::⟨1,11,0,0,IntKind.u32.wrap p.count⟩::⟨15,0,15,11,36⟩::⟨19,0,0,0,1⟩::l) R3 W1 M/\R3.getD 9 0=p.NK V (p.NW V f0)/\R3.getD 15 0=0:=by
  rw[hrest]at b1;unfold jm at b1;unfold Pg.NK;by_cases hd:0<=p.target
  .rw[ax hd]at b1|-;have b1:HGo C k2 (jN pl p.target 7++(⟨2,9,et pl p.target 7,0,0⟩::(⟨15,0,15,9,0⟩::⟨1,11,0,0,IntKind.u32.wrap p.count⟩::⟨15,0,15,11,36⟩::⟨19,0,0,0,1⟩::l))) R2 W1 M:=by
    rw[ac,ap]at b1;exact b1
   obtain⟨k3,R3,r,c1,c2,c3,c4,c5⟩:=HGo.take7 hp hV b1 h15' hold2 ⟨hd,(htg hd).1,(htg hd).2⟩;rw[c2]at c1;have c6:=HGo.mov (rd:=9) (ra:=r) c1;rw[c4]at c6;exact⟨_,_,c6,cV (by rw[c1.rl];decide),by rw[cF Wq5,c5 15 Wq5,h15']⟩
  rw[aw hd]at b1|-;exact⟨k2,R2,b1,b2,h15'⟩
 obtain⟨k3,R3,d1,d2,d3⟩:=tgt;have hpc:0<=p.NK V (p.NW V f0)/\p.NK V (p.NW V f0)<=4294967295:=by
  unfold Pg.NK;cases decide (0<=p.target)with
  |true=>exact iU hV _
  |false=>cases(cY p.branch (p.NW V f0)).1 with
   |true=>exact htk
   |false=>exact hnx
 have hl3:=d1.rl;have hw3:=d1.wl;have x1:=HGo.st (ra:=15) (rb:=9) (p:=0) (v:=p.NK V (p.NW V f0)) d1 (by rw[d3];rfl) Wq5 (by rw[d2,aE];omega);have x2:=HGo.li (rd:=11) x1;have x3:=HGo.st (ra:=15) (rb:=11) (p:=36) (v:=p.count) x2 (by rw[cF Wq5,d3];rfl) Wq5 (by rw[cV Wq1,aE,aE];omega);have x4:=HGo.exit x3;rw[x4.2];refine⟨?_,?_,?_,λi h0 h1 h36=>?_⟩
 .show((W1.set 0 _).set 36 _).getD 0 0=_;rw[cF Wq5,cV Wq1]
 .show((W1.set 0 _).set 36 _).getD 1 0=_;rw[cF Wq5,cF Wq5,g3]
 .show((W1.set 0 _).set 36 _).getD 36 0=_;exact cV (by rw[aC];omega)
 show((W1.set 0 _).set 36 _).getD i 0=_;rw[cF (λe=>h36 e.symm),cF (λe=>h0 e.symm),g4 i h1]
end
section
variable {pl:Pl}
theorem tM(n into:Int):(jN pl n into).length<=1:=by unfold jN;cases pl.inR n<;>simp
theorem KV(n r:Int):(jq pl n r).length<=1:=by unfold jq;cases pl.inR n<;>simp
theorem I1(op rd a b:Int):(vV op rd a b).length<=3:=by unfold vV;cases xe op<;>simp[Mn]
theorem Lf(op a b:Int):(ma op a b).length<=21:=by
 have h:=I1 op 9 a b;unfold ma gt;cases op==16 with
 |true=>simp[kF,gY,io,ur];omega
 |false=>
  cases op==17||op==25 with
  |true=>simp[kE,gY,io,ur];omega
  |false=>simp[gY,io,ur];omega
theorem oneL_le(nd nr:Int)(n:Int)(x:II):(qu nd nr pl n x).length<=25:=by
 have h0:=KV (pl:=pl) n (et pl n 9);have h1:=tM (pl:=pl) x.a 7;have h2:=tM (pl:=pl) x.b 8;have h3:=I1 x.imm (et pl n 9) (et pl x.a 7) (et pl x.b 8);have h4:=Lf x.imm (et pl x.a 7) (et pl x.b 8);unfold qu;rw[ae];cases x.op==0 with
 |true=>simp;omega
 |false=>cases x.op==1 with
  |true=>simp;omega
  |false=>cases x.op==2 with
   |true=>simp;omega
   |false=>cases x.op==3 with
    |true=>simp only[ac,aa,ae];omega
    |false=>cases x.op==4 with
     |true=>simp only[ac,aa,ae,ak,ao];omega
     |false=>simp;omega
theorem Cc(nd nr:Int):∀(c:List II) (n:Nat),(j9 nd nr pl c n).length<=25*c.length
 |[],_=>aq _
 |x::c,n=>by
  have h1:=oneL_le (pl:=pl) nd nr n x;have h2:=Cc nd nr c (n+1);show(qu nd nr pl n x++j9 nd nr pl c (n+1)).length<=25*(c.length+1);rw[ae];omega
theorem AB(base f:Int):∀(c:List Int) (n:Nat),(vq pl base f c n).length<=2*c.length
 |[],_=>aq _
 |x::c,n=>by
  have h1:=tM (pl:=pl) x 7;have h2:=AB base f c (n+1);show(jN pl x 7++(_::vq pl base f c (n+1))).length<=2*(c.length+1);rw[ae,ak];omega
theorem endL_le(p:Pg)(pos:Nat):(rY p pl pos).length<=20:=by
 have h1:(gX p pl).length<=4:=by
  unfold gX;have:=tM (pl:=pl) p.flags 7;cases decide (0<=p.flags)with
  |true=>simp;omega
  |false=>simp
 have h2:∀q,(gI p q).length<=5:=λq=>by unfold gI;cases p.branch !=0<;>simp
 have h3:(jm p pl).length<=2:=by
  unfold jm;have:=tM (pl:=pl) p.target 7;cases decide (0<=p.target)with
  |true=>simp;omega
  |false=>simp
 have h4:=h2 (pos+(gX p pl).length+1);unfold rY;simp;omega
theorem work_le{p:Pg}(hn:p.code.length<=64)(hD:p.MV.length<=16)(hR:p.MW.length<=16):(iS p pl).length<=2000:=by
 have h1:=Cc (pl:=pl) p.MM p.MO p.code 0;have h2:=AB (pl:=pl) 14 4 p.MV 0;have h3:=AB (pl:=pl) 13 20 p.MW 0;unfold iS ix;simp only[ae,ak,ao];omega
theorem zw(p:Pg)(e:Int):(fL p pl e).length=(fL p pl 0).length:=by
 unfold fL rz oc;cases p.Nq<;>cases p.ND<;>simp
end
structure Left(p:Pg)(V:List Int)(s:St)(W:List Int):Prop where
 MM:p.MM<=s.d.length
 Nc:(s.d.length:Int)+p.Nc<=16
 MO:p.MO<=s.r.length
 Ng:(s.r.length:Int)+p.Ng<=16
 pc:W.getD 0 0=p.NK V (p.NW V s.flags)
 flags:W.getD 1 0=p.NW V s.flags
 N4:W.getD 2 0=((s.d.length - p.MM.toNat+p.MV.length:Nat):Int)
 lenR:W.getD 3 0=((s.r.length - p.MO.toNat+p.MW.length:Nat):Int)
 fitD:s.d.length - p.MM.toNat+p.MV.length<=16
 fitR:s.r.length - p.MO.toNat+p.MW.length<=16
 lowD:∀i,i<s.d.length - p.MM.toNat->W.getD (4+i) 0=s.d.getD i 0
 newD:∀i,i<p.MV.length->W.getD (4+(s.d.length - p.MM.toNat)+i) 0=V.getD (p.MV.getD i 0).toNat 0
 lowR:∀i,i<s.r.length - p.MO.toNat->W.getD (20+i) 0=s.r.getD i 0
 newR:∀i,i<p.MW.length->W.getD (20+(s.r.length - p.MO.toNat)+i) 0=V.getD (p.MW.getD i 0).toNat 0
 count:W.getD 36 0=p.count
theorem yF{MN high:Int}{out:Nat}:jh MN high out<=16 - high/\jh MN high out<=16+MN - out:=by
 unfold jh;split<;>omega
theorem yG{MN high:Int}{out:Nat}(h0:0<=MN/\MN<=16)(h1:0<=high/\high<=16):jh MN high out<=16/\(out<=16->0<=jh MN high out):=by
 unfold jh;split<;>omega
theorem Lm{p:Pg}{T:List Int}{pl:Pl}{s:St}{M:HM}(ok:PgOk p T)(hp:I9 pl T p.code.length)(hs:s.right=true)(hw:s.wf)(h:HGo (gQ p pl) 0 (gQ p pl) (List.replicate 16 0) (Nl s) M):
  Left p (Ni s.d s.r p.code) s M.words:=by
 obtain⟨hd16,hr16, -⟩:=St.fits hs;have hf15:0<=s.flags/\s.flags<=15:=⟨hw.flags.1,by have:=hs;unfold St.right at this;simp at this;omega⟩;have hD:wds s.d:=λx hx=>hw.d x hx
 have hR:wds s.r:=λx hx=>hw.r x hx
 have hV:wds (Ni s.d s.r p.code):=Jt p.code hD hR ok.code;obtain⟨w0,w1,w2,w3⟩:=Kh s;obtain⟨e,he⟩:=Zgn ((fL p pl 0).length);have hnd:=ok.MM;have hnr:=ok.MO;have hhd:=ok.Nc;have hhr:=ok.Ng;cases hrd:p.Nq with
 |false=>
  have hb:∀e,fL p pl e=[⟨1,15,0,0,0⟩]:=λe=>by unfold fL;rw[hrd];rfl
  unfold gQ at h;rw[hb]at h;have:=(HGo.exit (HGo.li (rd:=15) h)).1;cases this
 |true=>
 have hmD:p.MM<=p.NQ:=by unfold Pg.Nq at hrd;simp at hrd;exact hrd
 have hmD2:=yF (MN:=p.MM) (high:=p.Nc) (out:=p.MV.length);have hmD3:=yG (MN:=p.MM) (high:=p.Nc) (out:=p.MV.length) hnd hhd;have hmD0:p.NQ=jh p.MM p.Nc p.MV.length:=rfl;cases hrr:p.ND with
 |false=>
  have hb:∀e,fL p pl e=⟨1,15,0,0,0⟩::oc e 14 2 p.MM p.NQ:=λe=>by unfold fL;rw[hrd,hrr];rfl
  have h9:IntKind.u32.wrap ((fL p pl 0).length:Nat)=((9:Nat):Int):=by rw[hb];rfl
  unfold gQ at h;rw[h9,hb]at h;have g:=HGo.li (rd:=15) h;obtain⟨-, -,k',R',g1, -⟩:=HGo.room (base:=14) (word:=2) (n:=s.d.length) (e:=9) (l:=[⟨19,0,0,0,2⟩]) (by exact g) Wq1 Wq1 (cV cE) (by rw[w2]) hd16 hnd Wq1 rfl;have:=(HGo.exit g1).1;cases this
 |true=>
 have hmR:p.MO<=p.N3:=by unfold Pg.ND at hrr;simp at hrr;exact hrr
 have hmR2:=yF (MN:=p.MO) (high:=p.Ng) (out:=p.MW.length);have hmR3:=yG (MN:=p.MO) (high:=p.Ng) (out:=p.MW.length) hnr hhr;have hmR0:p.N3=jh p.MO p.Ng p.MW.length:=rfl;have hoD:p.MV.length<=16:=by omega
 have hoR:p.MW.length<=16:=by omega
 have hb:∀e,fL p pl e=rz p e++(iS p pl++rY p pl (17+(iS p pl).length)):=λe=>by unfold fL;rw[hrd,hrr];rfl
 have hwl:=work_le (pl:=pl) ok.n64 hoD hoR;have hel:=endL_le (pl:=pl) p (17+(iS p pl).length);have hh17:∀e,(rz p e).length=17:=λe=>rfl
 have hbl:(fL p pl 0).length=17+((iS p pl).length+(rY p pl (17+(iS p pl).length)).length):=by rw[hb,ae,ae,hh17]
 have hwr:IntKind.u32.wrap ((fL p pl 0).length:Nat)=(e:Int):=by rw[he,aE];omega
 obtain⟨C,hC⟩:=Zgn (gQ p pl);rw[hC]at h;have hC2:C=fL p pl (e:Int)++[⟨19,0,0,0,2⟩]:=by rw[<-hC];unfold gQ;rw[hwr]
 have hCe:C.drop e=[⟨19,0,0,0,2⟩]:=by
  rw[hC2,List.drop_append_of_le_length (by rw[zw,he];omega),List.drop_eq_nil_of_le (by rw[zw,he];omega)];rfl
 have hC3:C=⟨1,15,0,0,0⟩::(oc e 14 2 p.MM p.NQ++(oc e 13 3 p.MO p.N3++(iS p pl++(rY p pl (17+(iS p pl).length)++[⟨19,0,0,0,2⟩])))):=by
  rw[hC2,hb];unfold rz;simp
 have h1:HGo C 0 (⟨1,15,0,0,0⟩::(oc e 14 2 p.MM p.NQ++(oc e 13 3 p.MO p.N3++(iS p pl++(rY p pl (17+(iS p pl).length)++[⟨19,0,0,0,2⟩]))))) (List.replicate 16 0) (Nl s) M:=⟨by rw[List.drop_zero];exact hC3,h.rl,h.wl,h.ends⟩;have g0:=HGo.li (rd:=15) h1;obtain⟨r1,r2,k1,R1,g1,b1,s1⟩:=HGo.room (base:=14) (word:=2) (n:=s.d.length) g0 Wq1 Wq1 (cV cE) (by rw[w2]) hd16 hnd Wq1 hCe;obtain⟨r3,r4,k2,R2,g2,b2,s2⟩:=HGo.room (base:=13) (word:=3) (n:=s.r.length) g1 Wq1 Wq1 (by rw[s1 15 Wq5];exact cV cE) (by rw[w3]) hr16 hnr Wq1 hCe;have hbase:L1 s.d s.r p.MM p.MO R2 (Nl s):=⟨by rw[s2 15 Wq5,s1 15 Wq5];exact cV cE,by rw[s2 14 Wq5,b1],b2,λj hj=>Mj s j Wq1,λj hj=>Mh s j Wq1,hd16,hr16,⟨hnd.1,r1⟩,⟨hnr.1,r3⟩⟩;have g2:HGo C k2 (j9 p.MM p.MO pl p.code 0++(ix pl 14 4 2 p.MV++(ix pl 13 20 3 p.MW++(rY p pl (17+(iS p pl).length)++[⟨19,0,0,0,2⟩])))) R2 (Nl s) M:=by
  have e:iS p pl++(rY p pl (17+(iS p pl).length)++[⟨19,0,0,0,2⟩])=j9 p.MM p.MO pl p.code 0++(ix pl 14 4 2 p.MV++(ix pl 13 20 3 p.MW++(rY p pl (17+(iS p pl).length)++[⟨19,0,0,0,2⟩]))):=by
   rw[show iS p pl=j9 p.MM p.MO pl p.code 0++(ix pl 14 4 2 p.MV++ix pl 13 20 3 p.MW)from rfl];simp only[ap]
  rw[e]at g2;exact g2
 obtain⟨V,hVe⟩:=Zgn (Ni s.d s.r p.code);have hVal:∀i x,p.code[i]? =some x->x.ok p.MM p.MO (0+i)/\V.getD (0+i) 0=k9 s.d s.r V x/\(x.op=3\/x.op=4->((0+i:Nat):Int)<=T.getD x.a.toNat 0/\((0+i:Nat):Int)<=T.getD x.b.toNat 0):=λi x hx=>by
  rw[bE];refine⟨ok.code i x hx,?_,ok.uses i x hx⟩;obtain⟨hlt,hxe⟩:=au.1 hx;have hsp:p.code=p.code.take i++x::p.code.drop (i+1):=by rw[<-hxe,<-List.drop_eq_getElem_cons hlt,List.take_append_drop]
  have hok:=ok.code;rw[<-hVe];rw[hsp]at hok|-;have:=vals_at (D:=s.d) (Rr:=s.r) hok;rw[aB,Nat.min_eq_left Wq1]at this;exact this
 rw[hVe]at hV;obtain⟨k3,R3,W3,g3,b3,hold,ws3⟩:=HGo.all (N:=p.code.length) (V:=V) hp hD hR hV p.code 0 k2 R2 (Nl s) g2 Wq1 hVal hbase (λa ha=>absurd ha Wq1);have hBD:R3.getD 14 0=((s.d.length - p.MM.toNat:Nat):Int):=by rw[b3.bd];omega
 obtain⟨k4,R4,W4,g4,s4,o4,n4,l4,hold4⟩:=HGo.stack (B:=s.d.length - p.MM.toNat) hp hV Wq1 Wq1 Wq1 (base:=14) (from_:=4) (word:=2) g3 ok.MV Wq1 hBD b3.z hold;have hBR:R4.getD 13 0=((s.r.length - p.MO.toNat:Nat):Int):=by rw[s4 13 Wq5,b3.br];omega
 obtain⟨k5,R5,W5,g5,s5,o5,n5,l5,hold5⟩:=HGo.stack (B:=s.r.length - p.MO.toNat) hp hV Wq1 Wq1 Wq1 (base:=13) (from_:=20) (word:=3) g4 ok.MW Wq1 hBR (by rw[s4 15 Wq5,b3.z]) hold4;have hpos:k5=17+(iS p pl).length:=by
  have hpre:C=(rz p e++iS p pl)++(rY p pl (17+(iS p pl).length)++[⟨19,0,0,0,2⟩]):=by rw[hC2,hb];simp only[ap]
  have:=HGo.pos g5 cE hpre;rw[this,ae,hh17]
 have e1:W5.getD 1 0=s.flags:=by rw[o5 1 Wq5 Wq1,o4 1 Wq5 Wq1,ws3 1 Wq5,w1]
 obtain⟨f1,f2,f3,f4⟩:=HGo.fin ok rfl hp hV g5 hpos cE Wq1 (by rw[s5 15 Wq5,s4 15 Wq5,b3.z]) hold5 e1 hf15;rw[hVe];exact⟨r1,by omega,r3,by omega,f1,f2,by rw[f4 2 Wq5 Wq5 Wq5,o5 2 Wq5 Wq1,l4],by rw[f4 3 Wq5 Wq5 Wq5,l5],by omega,by omega,
  λi hi=>by rw[f4 (4+i) Wq1 Wq1 Wq1,o5 (4+i) Wq1 Wq1,o4 (4+i) Wq1 Wq1,ws3 (4+i) Wq1,Mj s i Wq1],
  λi hi=>by rw[f4 _ Wq1 Wq1 Wq1,o5 _ Wq1 Wq1,n4 i hi],
  λi hi=>by rw[f4 (20+i) Wq1 Wq1 Wq1,o5 (20+i) Wq1 Wq1,o4 (20+i) Wq1 Wq1,ws3 (20+i) Wq1,Mh s i Wq1],
  λi hi=>by rw[f4 _ Wq1 Wq1 Wq1,n5 i hi],f3⟩
def gz(T:List Int)(n at_:Int):List Int:=bif decide (0<=n)then T.set n.toNat (if at_>T.getD n.toNat 0 then at_ else T.getD n.toNat 0)else T
def lr(x:II):Bool:=x.op==3||x.op==4
def fB:List II->Nat->List Int->List Int
 |[],_,T=>T
 |x::c,k,T=>fB c (k+1) (bif lr x then gz (gz T x.a k) x.b k else T)
def jW(T:List Int)(l:List Int)(at_:Int):List Int:=l.foldl (λT n=>gz T n at_) T
def iota(n:Nat):List Int:=(List.range n).map λk:Nat=>(k:Int)
def gM(p:Pg):List Int:=jW (jW (jW (fB p.code 0 (iota p.code.length)) p.MV p.code.length) p.MW p.code.length) [p.flags,p.target] p.code.length
def Up(A B:List Int):Prop:=B.length=A.length/\∀i,A.getD i 0<=B.getD i 0
theorem Up.refl(A:List Int):Up A A:=⟨rfl,λ_=>Int.le_refl _⟩
theorem Up.trans{A B D:List Int}(h:Up A B)(k:Up B D):Up A D:=⟨k.1.trans h.1,λi=>Int.le_trans (h.2 i) (k.2 i)⟩
theorem j5(T:List Int)(n a:Int):Up T (gz T n a):=by
 unfold gz;cases decide (0<=n)with
 |false=>exact Up.refl T
 |true=>
  refine⟨by grind,λi=>?_⟩
  grind
theorem wh{T:List Int}{n a:Int}(h0:0<=n)(h1:n.toNat<T.length):a<=(gz T n a).getD n.toNat 0:=by
 grind [gz,cV]
theorem jE:∀(l:List Int) (T:List Int) (a:Int),Up T (jW T l a)
 |[],T,a=>Up.refl T
 |n::l,T,a=>(j5 T n a).trans (jE l (gz T n a) a)
theorem oU:∀(l:List Int) (T:List Int) (a:Int),∀n,n∈l->0<=n->n.toNat<T.length->a<=(jW T l a).getD n.toNat 0
 |[],_,_,n,hn,_,_=>by cases hn
 |m::l,T,a,n,hn,h0,h1=>by
  show a<=(jW (gz T m a) l a).getD n.toNat 0;have hl:=(j5 T m a).1;rcases aJ.1 hn with rfl|hn
  .exact Int.le_trans (wh h0 h1) ((jE l (gz T n a) a).2 _)
  exact oU l (gz T m a) a n hn h0 Wq1
theorem kz:∀(c:List II) (k:Nat) (T:List Int),Up T (fB c k T)
 |[],_,T=>Up.refl T
 |x::c,k,T=>by
  refine Up.trans ?_ (kz c (k+1) _);cases lr x with
  |true=>exact(j5 T x.a k).trans (j5 _ x.b k)
  |false=>exact Up.refl T
theorem tv:∀(c:List II) (k:Nat) (T:List Int) (i:Nat) (x:II),c[i]? =some x->lr x=true->(0<=x.a/\x.a.toNat<T.length)->(0<=x.b/\x.b.toNat<T.length)->
  ((k+i:Nat):Int)<=(fB c k T).getD x.a.toNat 0/\((k+i:Nat):Int)<=(fB c k T).getD x.b.toNat 0
 |[],_,_,i,x,h,_,_,_=>by cases h
 |y::c,k,T,0,x,h,hx,ha,hb=>by
  obtain rfl:y=x:=by grind
  have e:fB (y::c) k T=fB c (k+1) (gz (gz T y.a k) y.b k):=by
   show fB c (k+1) (bif lr y then _ else _)=_;rw[hx];rfl
  have h1:=(j5 T y.a k).1;have h2:=kz c (k+1) (gz (gz T y.a k) y.b k);have h3:=wh (T:=T) (a:=k) ha.1 ha.2;have h4:=wh (T:=gz T y.a k) (a:=k) hb.1 Wq1;have h5:=(j5 (gz T y.a k) y.b k).2 y.a.toNat;rw[e,Nat.add_zero];exact⟨Int.le_trans h3 (Int.le_trans h5 (h2.2 _)),Int.le_trans h4 (h2.2 _)⟩
 |y::c,k,T,i+1,x,h,hx,ha,hb=>by
  have hl:(bif lr y then gz (gz T y.a k) y.b k else T).length=T.length:=by
   cases lr y with
   |true=>exact((j5 T y.a k).trans (j5 _ y.b k)).1
   |false=>rfl
  have:=tv c (k+1) (bif lr y then gz (gz T y.a k) y.b k else T) i x (by grind) hx ⟨ha.1,by omega⟩ ⟨hb.1,by omega⟩;rw[show k+1+i=k+(i+1) by omega]at this;exact this
theorem KX{n i:Nat}(h:i<n):(iota n).getD i 0=i:=by
 grind [iota]
theorem pG(n:Nat):(iota n).length=n:=by simp[iota]
theorem xj(p:Pg):Up (fB p.code 0 (iota p.code.length)) (gM p):=((jE _ _ _).trans (jE _ _ _)).trans (jE _ _ _)
theorem KP(p:Pg):(gM p).length=p.code.length:=by rw[(xj p).1,(kz _ _ _).1,pG]
theorem G1(p:Pg){i:Nat}(h:i<p.code.length):(i:Int)<=(gM p).getD i 0:=by
 have h1:=((kz p.code 0 (iota p.code.length)).trans (xj p)).2 i
 grind [KX]
theorem G0(p:Pg){n:Nat}{x:II}(h:p.code[n]? =some x)(hx:lr x=true)(ha:0<=x.a/\x.a<p.code.length)(hb:0<=x.b/\x.b<p.code.length):(n:Int)<=(gM p).getD x.a.toNat 0/\(n:Int)<=(gM p).getD x.b.toNat 0:=by
 have h1:=tv p.code 0 (iota p.code.length) n x h hx ⟨ha.1,by rw[pG];omega⟩ ⟨hb.1,by rw[pG];omega⟩;rw[bE]at h1;exact⟨Int.le_trans h1.1 ((xj p).2 _),Int.le_trans h1.2 ((xj p).2 _)⟩
theorem pD(p:Pg){n:Int}(h:n∈p.MV\/n∈p.MW\/n=p.flags\/n=p.target)(h0:0<=n/\n<p.code.length):(p.code.length:Int)<=(gM p).getD n.toNat 0:=by
 have l0:(fB p.code 0 (iota p.code.length)).length=p.code.length:=by rw[(kz _ _ _).1,pG]
 have l1:=(jE p.MV (fB p.code 0 (iota p.code.length)) p.code.length).1;have u2:=jE p.MW (jW (fB p.code 0 (iota p.code.length)) p.MV p.code.length) p.code.length;have l2:=u2.1;have u3:=jE [p.flags,p.target] (jW (jW (fB p.code 0 (iota p.code.length)) p.MV p.code.length) p.MW p.code.length) p.code.length;rcases h with h|h|h
 .exact Int.le_trans (oU p.MV _ _ n h h0.1 Wq1) ((u2.trans u3).2 _)
 .exact Int.le_trans (oU p.MW _ _ n h h0.1 Wq1) (u3.2 _)
 exact oU [p.flags,p.target] _ _ n (by grind) h0.1 Wq1
def mQ(T:List Int)(i j:Nat):Bool:=(decide ((i:Int)<T.getD j 0)&&decide ((j:Int)<T.getD i 0))||((i:Int)==(j:Int))
def fp(T place:List Int)(n:Nat)(k:Int):Nat->Bool
 |0=>false
 |i+1=>fp T place n k i||((place.getD i 0==k)&&mQ T i n)
def kD(T place:List Int)(n:Nat):Nat->Nat->Nat
 |0,k=>k
 |f+1,k=>bif fp T place n k place.length then kD T place n f (k+1)else k
def ga(T place:List Int)(n:Nat):Nat:=kD T place n place.length 0
def gL(T reg:List Int)(n:Nat):Nat->Nat
 |0=>n
 |k+1=>bif((reg.getD k 0 != -1)&&mQ T n k)&&decide (T.getD (gL T reg n k) 0<T.getD k 0)then k else gL T reg n k
def lb(T:List Int)(pl:Pl)(n:Nat):Pl:=
 ⟨pl.reg.set n (-1),pl.slot.set n (ga T pl.slot n),if((ga T pl.slot n:Nat):Int)+1>pl.Nf then((ga T pl.slot n:Nat):Int)+1 else pl.Nf⟩
def mH(T:List Int)(Na:Int)(pl:Pl)(n:Nat):Pl:=
 bif decide (((ga T pl.reg n:Nat):Int)<Na)then⟨pl.reg.set n (ga T pl.reg n),pl.slot,pl.Nf⟩else
 bif(gL T pl.reg n n !=n)then lb T ⟨pl.reg.set n (pl.reg.getD (gL T pl.reg n n) 0),pl.slot,pl.Nf⟩ (gL T pl.reg n n)else lb T pl n
def ig(T:List Int)(Na:Int)(N:Nat):Nat->Pl
 |0=>⟨List.replicate N (-1),List.replicate N (-1),0⟩
 |n+1=>mH T Na (ig T Na N n) n
theorem x9(T place:List Int)(n:Nat)(k:Int):∀m,fp T place n k m=true<->∃i,i<m/\place.getD i 0=k/\mQ T i n=true
 :=by intro y1;induction y1<;>grind [fp,mQ]
theorem pigeon(place:List Int)(h:∀k:Nat,k<=place.length->∃i,i<place.length/\place.getD i 0=(k:Int)):False:=by
 have hc:∃f:Nat->Nat,∀k,k<=place.length->f k<place.length/\place.getD (f k) 0=(k:Int):=by
  refine⟨λk=>if hk:k<=place.length then Classical.choose (h k hk)else 0,λk hk=>?_⟩;simp only[dif_pos hk];exact Classical.choose_spec (h k hk)
 obtain⟨f,hf⟩:=hc;have h1:=mO place.length ((List.range (place.length+1)).map f) ?_ ?_
 .simp at h1;omega
 .rw[List.Nodup,List.pairwise_map];refine List.Pairwise.imp_of_mem ?_ (List.nodup_range (n:=place.length+1));intro a b ha hb hab e;have h2:=(hf a (by have:=List.mem_range.1 ha;omega)).2;have h3:=(hf b (by have:=List.mem_range.1 hb;omega)).2;rw[e,h3]at h2;exact hab Wq1
 intro x hx;obtain⟨k,hk,rfl⟩:=aZ.1 hx;exact(hf k (by have:=List.mem_range.1 hk;omega)).1
theorem zc(T place:List Int)(n:Nat):∀f k,k+f=place.length->(∀j,j<k->fp T place n j place.length=true)->fp T place n (kD T place n f k) place.length=false/\kD T place n f k<=place.length/\∀j,j<kD T place n f k->fp T place n j place.length=true
 |0,k,hk,hb=>by
  refine⟨?_,by show k<=_;omega,hb⟩;show fp T place n k place.length=false;cases h:fp T place n k place.length with
  |false=>rfl
  |true=>
   refine(pigeon place λj hj=>?_).elim;have ht:fp T place n j place.length=true:=by
    by_cases e:j=k
    .rw[e];exact h
    exact hb j Wq1
   obtain⟨i,h1,h2, -⟩:=(x9 T place n j place.length).1 ht;exact⟨i,h1,h2⟩
 |f+1,k,hk,hb=>by
  cases h:fp T place n k place.length with
  |false=>
   have e:kD T place n (f+1) k=k:=by show(bif fp T place n k place.length then _ else k)=k;rw[h];rfl
   rw[e];exact⟨h,by omega,hb⟩
  |true=>
   have e:kD T place n (f+1) k=kD T place n f (k+1):=by show(bif fp T place n k place.length then kD T place n f (k+1)else k)=_;rw[h];rfl
   rw[e];exact zc T place n f (k+1) Wq1 (λj hj=>by
    by_cases e:j=k
    .rw[e];exact h
    exact hb j Wq1)
theorem qC(T place:List Int)(n:Nat):fp T place n (ga T place n) place.length=false/\ga T place n<=place.length/\∀j,j<ga T place n->fp T place n j place.length=true:=
 zc T place n place.length 0 Wq1 (λj hj=>absurd hj Wq1)
theorem nN{T place:List Int}{n i:Nat}(hi:i<place.length)(h:place.getD i 0=(ga T place n:Nat)):mQ T i n=false:=by
 cases hm:mQ T i n with
 |false=>rfl
 |true=>
  have:=(x9 T place n (ga T place n) place.length).2 ⟨i,hi,h,hm⟩;rw[(qC T place n).1]at this;cases this
theorem AL{T:List Int}{i j:Nat}(h:mQ T i j=false)(hij:i<j)(hT:(j:Int)<=T.getD j 0):T.getD i 0<=j:=by
 unfold mQ at h;simp only[bz,Bool.and_eq_false_iff,ah]at h;omega
theorem KG{T:List Int}{i j:Nat}(h:mQ T i j=false)(hij:j<i)(hT:(i:Int)<=T.getD i 0):T.getD j 0<=i:=by
 unfold mQ at h;simp only[bz,Bool.and_eq_false_iff,ah]at h;omega
theorem tq(T reg:List Int)(n:Nat):∀k,gL T reg n k=n\/(gL T reg n k<k/\reg.getD (gL T reg n k) 0≠ -1/\mQ T n (gL T reg n k)=true)
 |0=>Or.inl rfl
 |k+1=>by
  have e:gL T reg n (k+1)=bif((reg.getD k 0 != -1)&&mQ T n k)&&decide (T.getD (gL T reg n k) 0<T.getD k 0)then k else gL T reg n k:=rfl
  cases hc:((reg.getD k 0 != -1)&&mQ T n k)&&decide (T.getD (gL T reg n k) 0<T.getD k 0)with
  |true=>
   rw[hc,ac]at e;rw[e];simp only[aL,bne_iff_ne,ne_eq]at hc;exact Or.inr ⟨by omega,hc.1.1,hc.1.2⟩
  |false=>
   rw[hc,aa]at e;rw[e];rcases tq T reg n k with h|⟨h1,h2⟩
   .exact Or.inl h
   exact Or.inr ⟨by omega,h2⟩
structure SInv(T:List Int)(Na:Int)(N n:Nat)(pl:Pl):Prop where
 rl:pl.reg.length=N
 sl:pl.slot.length=N
 had:∀i,i<n->(0<=pl.reg.getD i 0/\pl.reg.getD i 0<Na/\pl.slot.getD i 0= -1)\/(pl.reg.getD i 0= -1/\0<=pl.slot.getD i 0/\pl.slot.getD i 0<=N)
 new:∀i,n<=i->i<N->pl.reg.getD i 0= -1/\pl.slot.getD i 0= -1
 reg:∀i j,i<j->j<n->0<=pl.reg.getD i 0->pl.reg.getD i 0=pl.reg.getD j 0->T.getD i 0<=j
 slot:∀i j,i<j->j<n->0<=pl.slot.getD i 0->pl.slot.getD i 0=pl.slot.getD j 0->T.getD i 0<=j
theorem sinv0(T:List Int)(Na:Int)(N:Nat):SInv T Na N 0 (ig T Na N 0):=
 ⟨by simp[ig],by simp[ig],λi hi=>absurd hi Wq1,λi _ hi=>by
  constructor<;>(show(List.replicate N (-1:Int)).getD i 0= -1;rw[aF,List.getElem?_replicate_of_lt hi];rfl),λi j _ hj=>absurd hj Wq1,λi j _ hj=>absurd hj Wq1⟩
theorem F6{T:List Int}{Na:Int}{N n:Nat}{pl:Pl}(hT:∀i,i<N->(i:Int)<=T.getD i 0)(h:SInv T Na N n pl)(hn:n<N):SInv T Na N (n+1) (mH T Na pl n):=by
 have hrl:=h.rl;have hsl:=h.sl;obtain⟨nr,ns⟩:=h.new n (aM _) hn;unfold mH;by_cases hr:((ga T pl.reg n:Nat):Int)<Na
 .rw[ax hr,ac];refine⟨by simp[hrl],hsl,λi hi=>?_,λi h1 h2=>?_,λi j hij hj h0 he=>?_,λi j hij hj h0 he=>?_⟩
  .by_cases e:i=n
   .subst e;refine Or.inl ?_;dsimp only;rw[cV Wq1];exact⟨by omega,hr,ns⟩
   dsimp only;rw[cF (λx=>e x.symm)];exact h.had i Wq1
  .dsimp only;rw[cF Wq1];exact h.new i Wq1 h2
  .dsimp only at h0 he;by_cases ej:j=n
   .subst ej;rw[cF Wq1,cV Wq1]at he;exact AL (nN Wq1 he) hij (hT j hn)
   rw[cF Wq1,cF Wq1]at he;rw[cF Wq1]at h0;exact h.reg i j hij Wq1 h0 he
  by_cases ej:j=n
  .subst ej;dsimp only at h0 he;rw[ns]at he;omega
  exact h.slot i j hij Wq1 h0 he
 rw[aw hr,aa];rcases tq T pl.reg n n with hl|⟨l1,l2,l3⟩
 .rw[hl,show(n !=n)=false by simp,aa];unfold lb;have hf:=qC T pl.slot n;refine⟨by simp[hrl],by simp[hsl],λi hi=>?_,λi h1 h2=>?_,λi j hij hj h0 he=>?_,λi j hij hj h0 he=>?_⟩
  .dsimp only;by_cases e:i=n
   .subst e;refine Or.inr ?_;rw[cV Wq1,cV Wq1];exact⟨rfl,by omega,by omega⟩
   rw[cF (λx=>e x.symm),cF (λx=>e x.symm)];exact h.had i Wq1
  .dsimp only;rw[cF Wq1,cF Wq1];exact h.new i Wq1 h2
  .dsimp only at h0 he;rw[cF Wq1]at he h0;by_cases ej:j=n
   .subst ej;rw[cV Wq1]at he;omega
   rw[cF Wq1]at he;exact h.reg i j hij Wq1 h0 he
  dsimp only at h0 he;rw[cF Wq1]at he h0;by_cases ej:j=n
  .subst ej;rw[cV Wq1]at he;exact AL (nN Wq1 he) hij (hT j hn)
  rw[cF Wq1]at he;exact h.slot i j hij Wq1 h0 he
 obtain⟨lg,hlg⟩:=Zgn (gL T pl.reg n n);rw[hlg]at l1 l2 l3|-;rw[show(lg !=n)=true by simp;omega,ac];have hm:(n:Int)<T.getD lg 0:=by
  unfold mQ at l3;simp only[Bool.or_eq_true,aL,aj,beq_iff_eq]at l3;omega
 obtain⟨hreg,hlt,hslot⟩:0<=pl.reg.getD lg 0/\pl.reg.getD lg 0<Na/\pl.slot.getD lg 0= -1:=by
  rcases h.had lg l1 with q|⟨q, -⟩
  .exact q
  exact absurd q l2
 unfold lb;have hf:=qC T pl.slot lg;have er:∀i,i≠lg->i≠n->((pl.reg.set n (pl.reg.getD lg 0)).set lg (-1)).getD i 0=pl.reg.getD i 0:=λi h1 h2=>by rw[cF (λe=>h1 e.symm),cF (λe=>h2 e.symm)]
 have ern:((pl.reg.set n (pl.reg.getD lg 0)).set lg (-1)).getD n 0=pl.reg.getD lg 0:=by rw[cF Wq1,cV Wq1]
 have erl:((pl.reg.set n (pl.reg.getD lg 0)).set lg (-1)).getD lg 0= -1:=cV (by rw[aC];omega);have es:∀i,i≠lg->(pl.slot.set lg ((ga T pl.slot lg:Nat):Int)).getD i 0=pl.slot.getD i 0:=λi h1=>cF (λe=>h1 e.symm)
 have esl:(pl.slot.set lg ((ga T pl.slot lg:Nat):Int)).getD lg 0=(ga T pl.slot lg:Nat):=cV Wq1;refine⟨by simp[hrl],by simp[hsl],λi hi=>?_,λi h1 h2=>?_,λi j hij hj h0 he=>?_,λi j hij hj h0 he=>?_⟩
 .dsimp only;by_cases e:i=lg
  .subst e;rw[erl,esl];exact Or.inr ⟨rfl,by omega,by omega⟩
  by_cases e2:i=n
  .subst e2;rw[ern,es _ e];exact Or.inl ⟨hreg,hlt,ns⟩
  rw[er i e e2,es i e];exact h.had i Wq1
 .dsimp only;rw[er i Wq1 Wq1,es i Wq1];exact h.new i Wq1 h2
 .dsimp only at h0 he;by_cases ei:i=lg
  .subst ei;rw[erl]at h0;omega
  rw[er i ei Wq1]at h0 he;by_cases ejn:j=n
  .subst ejn;rw[ern]at he;by_cases hil:i<lg
   .have:=h.reg i lg hil l1 h0 he;omega
   have:=h.reg lg i Wq1 Wq1 hreg he.symm;omega
  by_cases ejl:j=lg
  .subst ejl;rw[erl]at he;omega
  rw[er j ejl ejn]at he;exact h.reg i j hij Wq1 h0 he
 dsimp only at h0 he;by_cases ei:i=lg
 .subst ei;rw[es j Wq1]at he;rw[esl]at he;exact KG (nN Wq1 he.symm) hij (hT j Wq1)
 rw[es i ei]at h0 he;by_cases ejl:j=lg
 .subst ejl;rw[esl]at he;exact AL (nN Wq1 he) hij (hT j Wq1)
 rw[es j ejl]at he;by_cases ejn:j=n
 .subst ejn;rw[ns]at he;omega
 exact h.slot i j hij Wq1 h0 he
theorem BO{T:List Int}{Na:Int}{N:Nat}(hT:∀i,i<N->(i:Int)<=T.getD i 0):∀n,n<=N->SInv T Na N n (ig T Na N n)
 |0,_=>sinv0 T Na N
 |n+1,h=>F6 hT (BO hT n Wq1) Wq1
theorem Gu{T:List Int}{N:Nat}(hT:∀i,i<N->(i:Int)<=T.getD i 0)(hN:N<=64):I9 (ig T 7 N N) T N:=by
 have h:=BO (Na:=7) hT N (aM _);obtain⟨pl,hpl⟩:=Zgn (ig T 7 N N);rw[hpl]at h|-;have e:∀n:Nat,pl.r n=pl.reg.getD n 0/\pl.s n=pl.slot.getD n 0:=λn=>by simp only[Pl.r,Pl.s,aP,and_self]
 have hin:∀n:Nat,pl.inR n=decide (0<=pl.reg.getD n 0):=λn=>by unfold Pl.inR;rw[(e n).1]
 refine⟨λn hn=>?_,λi j hij hj h1 h2 he=>?_,λi j hij hj h1 h2 he=>?_⟩
 .unfold Pl.has;rw[hin,(e n).1,(e n).2];rcases h.had n hn with⟨q1,q2, -⟩|⟨q1,q2,q3⟩
  .exact Or.inl ⟨ax q1,q2⟩
  exact Or.inr ⟨aw Wq1,q2,by omega⟩
 .rw[hin]at h1;rw[(e i).1,(e j).1]at he;exact h.reg i j hij hj (by simpa using h1) he
 rw[hin]at h1;rw[(e i).2,(e j).2]at he;refine h.slot i j hij hj ?_ he;rcases h.had i (by omega)with⟨q1, -⟩|⟨-,q, -⟩
 .rw[ax q1]at h1;cases h1
 exact q
def II.zero:II:=⟨0,0,0,0,0⟩
def i3(U:List Bool)(l:List Int):List Bool:=l.foldl (λU n=>bif n != -1 then U.set n.toNat true else U) U
def j0(code:List II):Nat->List Bool->List Bool
 |0,U=>U
 |k+1,U=>j0 code k (bif U.getD k false&&lr (code.getD k II.zero)then i3 U [(code.getD k II.zero).a,(code.getD k II.zero).b]else U)
def DV(p:Pg):List Bool:=i3 (i3 (i3 (List.replicate p.code.length false) p.MV) p.MW) [p.flags,p.target]
def gl(p:Pg):List Bool:=j0 p.code p.code.length (DV p)
def nW(x:II)(pl:List Int)(n:Nat):II:=bif lr x then⟨x.op,n,pl.getD x.a.toNat 0,pl.getD x.b.toNat 0,x.imm⟩else⟨x.op,n,x.a,x.b,x.imm⟩
def mm(U:List Bool):List II->Nat->List Int->List II->List Int×List II
 |[],_,pl,c=>(pl,c)
 |x::suf,i,pl,c=>bif U.getD i false then mm U suf (i+1) (pl.set i (c.length:Int)) (c++[nW x (pl.set i (c.length:Int)) c.length])else mm U suf (i+1) pl c
def ef(pl:List Int)(l:List Int):List Int:=l.map λn=>pl.getD n.toNat 0
def eV(p:Pg):List Int×List II:=mm (gl p) p.code 0 (List.replicate p.code.length 0) []
def eP(pl:List Int)(n:Int):Int:=bif n != -1 then pl.getD n.toNat 0 else n
def cH(p:Pg):Pg:=⟨(eV p).2,p.MM,p.MO,p.Nc,p.Ng,ef (eV p).1 p.MV,ef (eV p).1 p.MW,eP (eV p).1 p.flags,p.next,eP (eV p).1 p.target,p.branch,p.taken,p.count,(eV p).2.length⟩
def WfC(code:List II):Prop:=∀(i:Nat) (x:II),code[i]? =some x->lr x=true->(0<=x.a/\x.a<i)/\(0<=x.b/\x.b<i)
abbrev us(U:List Bool)(n:Nat):Prop:=U.getD n false=true
theorem Cr{U:List Bool}{j:Nat}(hj:j<U.length):(U.set j true).getD j false=true:=by grind
theorem getB_ne{U:List Bool}{i j:Nat}{b:Bool}(h:i≠j):(U.set i b).getD j false=U.getD j false:=by grind
theorem gr:∀(l:List Int) (U:List Bool),(i3 U l).length=U.length
 |[],_=>rfl
 |n::l,U=>by
  show(i3 (bif n != -1 then U.set n.toNat true else U) l).length=_;rw[gr l]
  grind
theorem nK:∀(l:List Int) (U:List Bool) (i:Nat),us U i->us (i3 U l) i
 :=by intro y1;induction y1<;>grind [i3,Cr,getB_ne]
theorem rV:∀(l:List Int) (U:List Bool) (n:Int),n∈l->0<=n->n.toNat<U.length->us (i3 U l) n.toNat
 :=by intro y1;induction y1<;>grind [i3,nK,Cr]
theorem vt:∀(l:List Int) (U:List Bool) (i:Nat),us (i3 U l) i->us U i\/∃n,n∈l/\n≠ -1/\n.toNat=i
 |[],_,_,h=>Or.inl h
 |m::l,U,i,h=>by
  have h:us (i3 (bif m != -1 then U.set m.toNat true else U) l) i:=h;rcases vt l _ i h with h|⟨n,h1,h2⟩
  .grind
  grind
theorem backTo_len(code:List II):∀(k:Nat) (U:List Bool),(j0 code k U).length=U.length
 :=by intro y1;induction y1<;>grind [j0,lr,II.zero,gr]
theorem uk(code:List II):∀(k:Nat) (U:List Bool) (i:Nat),us U i->us (j0 code k U) i
 :=by intro y1;induction y1<;>grind [j0,lr,II.zero,nK]
theorem zq{code:List II}{k:Nat}(hk:k<code.length):code[k]? =some (code.getD k II.zero):=by grind
theorem ul{code:List II}(hw:WfC code):∀(k:Nat),k<=code.length->∀(U:List Bool) (i:Nat),k<=i->us (j0 code k U) i->us U i
 |0,_,_,_,_,h=>h
 |k+1,hk,U,i,hi,h=>by
  have h:us (j0 code k (bif U.getD k false&&lr (code.getD k II.zero)then i3 U [(code.getD k II.zero).a,(code.getD k II.zero).b]else U)) i:=h;have h1:=ul hw k Wq1 _ i Wq1 h;cases hc:U.getD k false&&lr (code.getD k II.zero)with
  |false=>grind
  |true=>
   rw[hc,ac]at h1;obtain⟨ha,hb⟩:=hw k _ (zq Wq1) (by grind)
   grind [vt]
theorem pZ{code:List II}(hw:WfC code):∀(k:Nat),k<=code.length->∀(U:List Bool),U.length=code.length->∀(i:Nat),i<k->us (j0 code k U) i->lr (code.getD i II.zero)=true->us (j0 code k U) (code.getD i II.zero).a.toNat/\us (j0 code k U) (code.getD i II.zero).b.toNat
 |0,_,_,_,i,hi,_,_=>absurd hi Wq1
 |k+1,hk,U,hU,i,hi,h,hab=>by
  obtain⟨U',hU'⟩:∃U',(bif U.getD k false&&lr (code.getD k II.zero)then i3 U [(code.getD k II.zero).a,(code.getD k II.zero).b]else U)=U':=⟨_,rfl⟩;have e:j0 code (k+1) U=j0 code k U':=by rw[<-hU'];rfl
  have hl:U'.length=code.length:=by
   rw[<-hU',<-hU];cases U.getD k false&&lr (code.getD k II.zero)with
   |true=>exact gr _ _
   |false=>rfl
  rw[e]at h|-;by_cases hik:i=k
  .subst hik;have h1:=ul hw i Wq1 U' i (aM _) h;obtain⟨ha,hb⟩:=hw i _ (zq Wq1) hab
   grind [lr,II.zero,uk,rV]
  exact pZ hw k Wq1 U' hl i Wq1 h hab
section
variable {D R:List Int}
structure FInv(U:List Bool)(code:List II)(i:Nat)(pl:List Int)(c:List II)(D R:List Int):Prop where
 len:pl.length=code.length
 val:∀n,n<i->us U n->II.in_ (pl.getD n 0) c/\eB D R c (pl.getD n 0)=eB D R code n
def WfO(code:List II):Prop:=∀(i:Nat) (x:II),code[i]? =some x->(x.op=0\/x.op=1\/x.op=2)\/lr x=true
theorem uY{V V':List Int}{x:II}(h:x.op=0\/x.op=1\/x.op=2)(y:II)(h1:y.op=x.op)(h2:y.imm=x.imm):k9 D R V y=k9 D R V' x:=by
 obtain⟨op,dst,a,b,imm⟩:=x;obtain⟨op2,dst2,a2,b2,imm2⟩:=y;dsimp only at h h1 h2;subst h1 h2;rcases h with rfl|rfl|rfl<;>rfl
theorem xQ{V V':List Int}{x y:II}(h1:y.op=x.op)(h2:y.imm=x.imm)(hx:lr x=true)(ha:V.getD y.a.toNat 0=V'.getD x.a.toNat 0)(hb:V.getD y.b.toNat 0=V'.getD x.b.toNat 0):k9 D R V y=k9 D R V' x:=by
 obtain⟨op,dst,a,b,imm⟩:=x;obtain⟨op2,dst2,a2,b2,imm2⟩:=y;dsimp only at h1 h2 ha hb;subst h1 h2;unfold lr at hx;simp only[Bool.or_eq_true,beq_iff_eq]at hx;rcases hx with rfl|rfl
 .show(iN imm2 (V.getD a2.toNat 0) (V.getD b2.toNat 0)).1=(iN imm2 (V'.getD a.toNat 0) (V'.getD b.toNat 0)).1;rw[ha,hb]
 show(iN imm2 (V.getD a2.toNat 0) (V.getD b2.toNat 0)).2.1=(iN imm2 (V'.getD a.toNat 0) (V'.getD b.toNat 0)).2.1;rw[ha,hb]
theorem zS{code c:List II}{pl:List Int}{x:II}{n:Nat}(ho:(x.op=0\/x.op=1\/x.op=2)\/lr x=true)(ha:lr x=true->eB D R c (pl.getD x.a.toNat 0)=eB D R code x.a/\eB D R c (pl.getD x.b.toNat 0)=eB D R code x.b):
  k9 D R (Ni D R c) (nW x pl n)=k9 D R (Ni D R code) x:=by
 rcases ho with ho|hx
 .grind [lr,nW,uY]
 have e:nW x pl n=⟨x.op,n,pl.getD x.a.toNat 0,pl.getD x.b.toNat 0,x.imm⟩:=by unfold nW;rw[hx];rfl
 obtain⟨h1,h2⟩:=ha hx;rw[e];exact xQ rfl rfl hx h1 h2
theorem Dj{code:List II}(hw:WfC code)(ho:WfO code){i:Nat}{x:II}(hx:code[i]? =some x):eB D R code i=k9 D R (Ni D R code) x:=by
 obtain⟨hi,hxe⟩:=au.1 hx;have hsp:code=(code.take i++[x])++code.drop (i+1):=by rw[<-hxe,ap,List.singleton_append,<-List.drop_eq_getElem_cons hi,List.take_append_drop]
 have hl:(code.take i).length=i:=by rw[aB];omega
 have e1:eB D R code i=eB D R (code.take i++[x]) i:=by
  conv=>lhs;rw[hsp]
  exact iv ⟨by omega,by grind⟩
 have e2:eB D R (code.take i++[x]) i=k9 D R (Ni D R (code.take i)) x:=by
  have:=jD (D:=D) (R:=R) (code.take i) x;rw[hl]at this;exact this
 rw[e1,e2];rcases ho i x hx with h|h
 .grind [uY]
 obtain⟨⟨a1,a2⟩,b1,b2⟩:=hw i x hx h;have hsp2:code=code.take i++code.drop i:=(List.take_append_drop i code).symm;have ea:eB D R code x.a=eB D R (code.take i) x.a:=by
  conv=>lhs;rw[hsp2]
  exact iv ⟨a1,by omega⟩
 have eb:eB D R code x.b=eB D R (code.take i) x.b:=by
  conv=>lhs;rw[hsp2]
  exact iv ⟨b1,by omega⟩
 exact xQ rfl rfl h ea.symm eb.symm
theorem Ib{U:List Bool}{code:List II}(hw:WfC code)(ho:WfO code)(hcl:∀(i:Nat) (x:II),code[i]? =some x->us U i->lr x=true->us U x.a.toNat/\us U x.b.toNat):∀(suf:List II) (i:Nat) (pl:List Int) (c:List II),code.drop i=suf->i<=code.length->
  FInv U code i pl c D R->FInv U code code.length (mm U suf i pl c).1 (mm U suf i pl c).2 D R
 |[],i,pl,c,hs,hi,h=>by
  have:code.length=i:=by
   have:=congrArg List.length hs;rw[bI]at this;simp at this;omega
  rw[this];exact h
 |x::suf,i,pl,c,hs,hi,h=>by
  have hil:i<code.length:=by
   have:=congrArg List.length hs;rw[bI]at this;simp at this;omega
  have hx:code[i]? =some x:=by rw[List.drop_eq_getElem_cons hil]at hs;injection hs with h1 h2;rw[ai hil,h1]
  have hs':code.drop (i+1)=suf:=by rw[List.drop_eq_getElem_cons hil]at hs;injection hs
  cases hu:U.getD i false with
  |false=>
   have e:mm U (x::suf) i pl c=mm U suf (i+1) pl c:=by show(bif U.getD i false then _ else _)=_;rw[hu];rfl
   rw[e];refine Ib hw ho hcl suf (i+1) pl c hs' Wq1 ⟨h.len,λn hn hun=>?_⟩;by_cases en:n=i
   .grind
   exact h.val n Wq1 hun
  |true=>
   have e:mm U (x::suf) i pl c=mm U suf (i+1) (pl.set i (c.length:Int)) (c++[nW x (pl.set i (c.length:Int)) c.length]):=by show(bif U.getD i false then _ else _)=_;rw[hu];rfl
   rw[e];refine Ib hw ho hcl suf (i+1) _ _ hs' Wq1 ⟨by simp[h.len],λn hn hun=>?_⟩;have hlen:=h.len;by_cases en:n=i
   .subst en;rw[cV Wq1];refine⟨mZ _ _,?_⟩;rw[jD,Dj hw ho hx];refine zS (ho n x hx) (λhab=>?_);obtain⟨⟨a1,a2⟩,b1,b2⟩:=hw n x hx hab;obtain⟨ua,ub⟩:=hcl n x hx hu hab;have ea:((x.a.toNat:Nat):Int)=x.a:=by omega
    have eb:((x.b.toNat:Nat):Int)=x.b:=by omega
    have ha:=(h.val x.a.toNat Wq1 ua).2;have hb:=(h.val x.b.toNat Wq1 ub).2
    grind
   obtain⟨h1,h2⟩:=h.val n Wq1 hun
   grind [cF,qY,iv]
structure Raw(p:Pg):Prop where
 wf:WfC p.code
 ops:WfO p.code
 MV:∀n,n∈p.MV->II.in_ n p.code
 MW:∀n,n∈p.MW->II.in_ n p.code
 flags:p.flags= -1\/II.in_ p.flags p.code
 target:p.target= -1\/II.in_ p.target p.code
theorem FQ{p:Pg}(h:Raw p){n:Int}(hn:n∈p.MV\/n∈p.MW\/n=p.flags\/n=p.target)(h0:II.in_ n p.code):
  II.in_ ((eV p).1.getD n.toNat 0) (eV p).2/\eB D R (eV p).2 ((eV p).1.getD n.toNat 0)=eB D R p.code n:=by
 have hl0:(DV p).length=p.code.length:=by unfold DV;rw[gr,gr,gr,aI]
 have hcl:∀(i:Nat) (x:II),p.code[i]? =some x->us (gl p) i->lr x=true->us (gl p) x.a.toNat/\us (gl p) x.b.toNat:=λi x hx hu hab=>by
  have hi:i<p.code.length:=(au.1 hx).1;have e:p.code.getD i II.zero=x:=by rw[aF,hx];rfl
  have:=pZ h.wf p.code.length (aM _) (DV p) hl0 i hi hu (by grind);rw[e]at this;exact this
 have hF:=Ib (D:=D) (R:=R) (U:=gl p) h.wf h.ops hcl p.code 0 (List.replicate p.code.length 0) [] cE (aq _) ⟨by simp,λn hn=>absurd hn Wq1⟩;obtain⟨i0,i1⟩:=h0;have en:((n.toNat:Nat):Int)=n:=by omega
 have hu:us (gl p) n.toNat:=by
  refine uk p.code p.code.length _ _ ?_;unfold DV;rcases hn with hn|hn|hn
  .grind [nK,rV]
  .grind [nK,rV,gr]
  grind [rV,gr]
 have:=hF.val n.toNat Wq1 hu;rw[en]at this;exact this
end
end Go.Ink
