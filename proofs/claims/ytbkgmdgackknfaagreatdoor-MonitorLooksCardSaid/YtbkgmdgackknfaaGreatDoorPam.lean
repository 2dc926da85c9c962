/- Lemmas. -/
import Derived.Test.YtbkgmdgackknfaaGreatDoorPal
set_option linter.unusedSimpArgs false
set_option linter.unusedVariables false
set_option maxRecDepth 100000
set_option maxHeartbeats 4000000
namespace Go.Ink
open Go.RowKit
def jW(W:List Int)(from_:Nat)(l:List Int):Nat->List Int
 |0=>W
 |k+1=>(jW W from_ l k).set (from_+k) (l.getD k 0)
def Sz(s:St):List Int:=(jW (jW (((((List.replicate 256 (0:Int)).set 0 s.pc).set 1 s.flags).set 2 (s.d.length:Int)).set 3 (s.r.length:Int)) 4 s.d 16) 20 s.r 16).set 36 0
theorem lI(W:List Int)(f:Nat)(l:List Int):∀k,(jW W f l k).length=W.length
 :=by intro y1;induction y1<;>simp_all [jW]
theorem FM(W:List Int)(f:Nat)(l:List Int):∀k,f+k<=W.length->∀j,j<k->(jW W f l k).getD (f+j) 0=l.getD j 0
 :=by intro y1;induction y1<;>grind [jW,cR,lI,cK]
theorem kz(W:List Int)(f:Nat)(l:List Int):∀k,∀j,(j<f\/f+k<=j)->(jW W f l k).getD j 0=W.getD j 0
 :=by intro y1;induction y1<;>grind [jW,cK]
theorem Ft(s:St):(Sz s).length=256:=by unfold Sz;simp[lI]
theorem On(s:St):(Sz s).getD 0 0=s.pc/\(Sz s).getD 1 0=s.flags/\(Sz s).getD 2 0=s.d.length/\(Sz s).getD 3 0=s.r.length:=by
 unfold Sz;refine⟨?_,?_,?_,?_⟩
 .rw[cK Wq7,kz _ _ _ _ _ Wq1,kz _ _ _ _ _ Wq1,cK Wq7,cK Wq7,cK Wq7];grind
 .rw[cK Wq7,kz _ _ _ _ _ Wq1,kz _ _ _ _ _ Wq1,cK Wq7,cK Wq7];grind
 .grind [cK,kz,cR]
 grind [cK,kz,cR]
theorem Re(s:St)(j:Nat)(hj:j<16):(Sz s).getD (4+j) 0=s.d.getD j 0:=by
 unfold Sz;rw[cK Wq1,kz _ _ _ _ _ Wq1];exact FM _ _ _ _ cH j hj
theorem Rc(s:St)(j:Nat)(hj:j<16):(Sz s).getD (20+j) 0=s.r.getD j 0:=by
 unfold Sz;rw[cK Wq1];exact FM _ _ _ _ (by simp[lI]) j hj
def Pg.S6(p:Pg)(V:List Int)(f0:Int):Int:=bif decide (0<=p.flags)then V.getD p.flags.toNat 0%16 else f0
def Pg.SR(p:Pg)(V:List Int)(f:Int):Int:=bif decide (0<=p.target)then V.getD p.target.toNat 0 else bif(dm p.branch f).1 then p.taken else p.next
section
variable {C l:List HI} {k:Nat} {R W:List Int} {M:HM} {pl:Pl} {T V:List Int} {N:Nat}
theorem HGo.pos{pre:List HI}(h:HGo C k l R W M)(hl:l≠[])(hC:C=pre++l):k=pre.length:=by
 grind [h.at_,List.length,List.length_drop,List.length_append,List.length_pos_iff]
theorem Gu.mono{R' W':List Int}(hp:Nc pl T N)(h:Gu pl T V N R W)(hs:∀j,j<7->R'.getD j 0=R.getD j 0)(hw:∀j,64<=j->W'.getD j 0=W.getD j 0):Gu pl T V N R' W':=λa ha ht=>by
 have h1:=h a ha ht;have h2:=hp.has a ha;refine⟨λhi=>?_,λhi=>?_⟩
 .have q1:0<=pl.r a:=by unfold Pl.inR at hi;simpa using hi
  have q2:pl.r a<7:=by rcases h2 with⟨-,q⟩|⟨q, -⟩;exact q;rw[hi]at q;cases q
  rw[hs _ Wq1];exact h1.1 hi
 rw[hw _ Wq1];exact h1.2 hi
theorem HGo.take7{n:Int}(hp:Nc pl T N)(hV:wds V)(h:HGo C k (jY pl n 7++l) R W M)(h15:R.getD 15 0=0)(hh:Gu pl T V N R W)(hn:0<=n/\n<N/\(N:Int)<=T.getD n.toNat 0):
  ∃k' R' r,HGo C k' l R' W M/\eC pl n 7=(r:Nat)/\r<9/\R'.getD r 0=V.getD n.toNat 0/\kN [7] R R':=by
 obtain⟨n0,n1,n2⟩:=hn;have en:((n.toNat:Nat):Int)=n:=by omega
 have h1:=hp.has n.toNat Wq1;have h2:=hh n.toNat Wq1 n2;rw[en]at h1 h2;obtain⟨r,hr,hr2⟩:=mq h1 (into:=7) Wq1
 grind [eC,HGo.get]
theorem Ql{v:Nat}(hv:v<4294967296):bits .and .u64 15 (v:Int)=(v:Int)%16:=by
 have h1:=MM (a:=15) (b:=v) Wq7 Wq1;rw[show((15:Nat):Int)=15 from rfl]at h1;rw[h1,Nat.and_comm,show(15:Nat)=2^4 - 1 from rfl,Nat.and_two_pow_sub_one_eq_mod];omega
theorem PH:∀f:Nat,f<16->(bits .and .u64 (f:Int) 1=bits .and .u32 (f:Int) 1/\bits .and .u64 (f:Int) 2=bits .and .u32 (f:Int) 2/\bits .and .u64 (f:Int) 4=bits .and .u32 (f:Int) 4/\bits .and .u64 (f:Int) 8=bits .and .u32 (f:Int) 8):=by decide+kernel
theorem Lh{op f:Int}(hop:33<=op/\op<=37)(hf:0<=f/\f<=15):(dm op f).1=(bif jF op then bits .and .u64 f (gX op) !=0 else bits .and .u64 f (gX op)==0):=by
 obtain⟨n,rfl⟩:∃n:Nat,f=n:=ap hf.1;obtain⟨h1,h2,h3,h4⟩:=PH n Wq1;have h:op=33\/op=34\/op=35\/op=36\/op=37:=by omega
 rcases h with rfl|rfl|rfl|rfl|rfl
 .show(bits .and .u32 (n:Int) 1 !=0)=(bits .and .u64 (n:Int) 1 !=0);rw[h1]
 .show(bits .and .u32 (n:Int) 1==0)=(bits .and .u64 (n:Int) 1==0);rw[h1]
 .show(bits .and .u32 (n:Int) 4 !=0)=(bits .and .u64 (n:Int) 4 !=0);rw[h3]
 .show(bits .and .u32 (n:Int) 2 !=0)=(bits .and .u64 (n:Int) 2 !=0);rw[h2]
 show(bits .and .u32 (n:Int) 8 !=0)=(bits .and .u64 (n:Int) 8 !=0);rw[h4]
theorem HGo.flagsEnd{p:Pg}{f0:Int}(hp:Nc pl T N)(hV:wds V)(h:HGo C k (gR p pl++l) R W M)(h15:R.getD 15 0=0)(hh:Gu pl T V N R W)(hf:0<=p.flags->p.flags<N/\(N:Int)<=T.getD p.flags.toNat 0)(h1:W.getD 1 0=f0):
  ∃k' R' W',HGo C k' l R' W' M/\kN [7,11] R R'/\W'.getD 1 0=p.S6 V f0/\∀i,i≠1->W'.getD i 0=W.getD i 0:=by
 unfold gR at h;unfold Pg.S6;by_cases hd:0<=p.flags
 .rw[ay hd]at h|-;have h:HGo C k (⟨1,11,0,0,15⟩::(jY pl p.flags 7++(⟨5,11,11,eC pl p.flags 7,0⟩::⟨15,0,15,11,1⟩::l))) R W M:=by
   have e:(⟨1,11,0,0,15⟩::(jY pl p.flags 7++[⟨5,11,11,eC pl p.flags 7,0⟩,⟨15,0,15,11,1⟩]))++l=(⟨1,11,0,0,15⟩::(jY pl p.flags 7++(⟨5,11,11,eC pl p.flags 7,0⟩::⟨15,0,15,11,1⟩::l)):List HI):=by simp
   rw[ai,e]at h;exact h
  have g0:=HGo.li (rd:=11) h;obtain⟨k1,R1,r,g1,g2,g3,g4,g5⟩:=HGo.take7 hp hV g0 bR (hh.mono hp (λj hj=>cK Wq1) (λ_ _=>rfl)) ⟨hd,(hf hd).1,(hf hd).2⟩;obtain⟨v,v1,v2⟩:=mT hV p.flags.toNat;rw[g2]at g1;have hl:=h.rl;have a1:=HGo.op (rd:=11) (ra:=11) (rb:=r) (v:=(v:Int)%16) g1 Wq7 Wq7 (by rw[g5 11 Wq7,cR Wq1,g4,v1];exact Ql v2);have a2:=HGo.st (ra:=15) (rb:=11) (p:=1) (v:=(v:Int)%16) a1 (by rw[cK Wq7,g5 15 Wq7,cK Wq7,h15];rfl) Wq7 (by rw[cR (by rw[g1.rl];decide),aC];omega);refine⟨_,_,_,a2,?_,?_,λi hi=>cK (λe=>hi e.symm)⟩
  .intro j hj;simp only[aG,aS,or_false,not_or]at hj;rw[cK Wq1,g5 j gZ,cK Wq1]
  grind [cR,h.wl]
 grind [kN.refl]
theorem HGo.Tp{p:Pg}{pos:Nat}{f:Int}(h:HGo C k (iu p pos++l) R W M)(hk:p.branch≠0->k=pos)(hps:pos<=100000)(h15:R.getD 15 0=0)(hf:0<=f/\f<=15)(h1:W.getD 1 0=f)(h9:R.getD 9 0=p.next)(hb:p.branch=0\/(33<=p.branch/\p.branch<=37)):
  ∃k' R',HGo C k' l R' W M/\R'.getD 9 0=(bif(dm p.branch f).1 then p.taken else p.next)/\kN [9,11,12] R R':=by
 unfold iu at h;rcases hb with hb|hb
 .rw[hb]at h|-;exact⟨k,R,h,h9,kN.refl _ _⟩
 rw[show(p.branch !=0)=true by simp;omega,ai]at h;have hk:=hk Wq1;have hl:=h.rl;have a1:=HGo.ld (rd:=11) (ra:=15) (p:=1) h (by rw[h15];rfl) Wq7;have a2:=HGo.li (rd:=12) a1;rw[h1]at a2;have hbit:=Lh hb hf;obtain⟨q,hq⟩:=Zgn (bits .and .u64 f (gX p.branch));rw[hq]at hbit;have a3:=HGo.op (rd:=11) (ra:=11) (rb:=12) (v:=q) a2 Wq7 Wq7 (by rw[cK Wq7,cR Wq1,cR bR];exact hq);have e11:(((R.set 11 f).set 12 (gX p.branch)).set 11 q).getD 11 0=q:=cR bR;have e9:(((R.set 11 f).set 12 (gX p.branch)).set 11 q).getD 9 0=p.next:=by rw[cK Wq7,cK Wq7,cK Wq7,h9]
 have ew:IntKind.u32.wrap (((pos+3:Nat):Int)+2)=((pos+5:Nat):Int):=by rw[aC];omega
 rw[ew]at a3;have hdrop:C.drop (pos+5)=l:=by
  have:=h.at_;rw[hk]at this;have h5:=congrArg (List.drop 5) this;rw[List.drop_drop]at h5;exact h5
 have same:kN [9,11,12] R (((R.set 11 f).set 12 (gX p.branch)).set 11 q):=by
  intro j hj;simp only[aG,aS,or_false,not_or]at hj;rw[cK Wq1,cK Wq1,cK Wq1]
 have goOn:∀{k2:Nat},HGo C k2 (⟨1,9,0,0,p.taken⟩::l) (((R.set 11 f).set 12 (gX p.branch)).set 11 q) W M->(dm p.branch f).1=true->∃k' R',HGo C k' l R' W M/\R'.getD 9 0=(bif(dm p.branch f).1 then p.taken else p.next)/\kN [9,11,12] R R':=λg he=>by
  refine⟨_,_,HGo.li (rd:=9) g,?_,same.trans (kN.set _ 9 _ (e:=[9]) cH) bR⟩
  grind
 have stay:HGo C (pos+5) l (((R.set 11 f).set 12 (gX p.branch)).set 11 q) W M->(dm p.branch f).1=false->∃k' R',HGo C k' l R' W M/\R'.getD 9 0=(bif(dm p.branch f).1 then p.taken else p.next)/\kN [9,11,12] R R':=λg he=>
  ⟨_,_,g,by grind,same⟩
 cases hs:jF p.branch with
 |true=>
  rw[hs]at a3 hbit;have a4:=HGo.beqz (ra:=11) a3 hdrop;rw[e11]at a4;rcases a4 with⟨c,g⟩|⟨c,g⟩
  .exact goOn g bR
  grind
 |false=>
  rw[hs]at a3 hbit;have a4:=HGo.bnez (ra:=11) a3 hdrop;rw[e11]at a4;rcases a4 with⟨c,g⟩|⟨c,g⟩
  .exact goOn g bR
  grind
structure PgOk(p:Pg)(T:List Int):Prop where
 code:OkC p.RI p.RJ p.code
 uses:∀(n:Nat) (x:II),p.code[n]? =some x->x.op=3\/x.op=4->(n:Int)<=T.getD x.a.toNat 0/\(n:Int)<=T.getD x.b.toNat 0
 RV:∀n,n∈p.RV->0<=n/\n<p.code.length/\(p.code.length:Int)<=T.getD n.toNat 0
 RX:∀n,n∈p.RX->0<=n/\n<p.code.length/\(p.code.length:Int)<=T.getD n.toNat 0
 flags:0<=p.flags->p.flags<p.code.length/\(p.code.length:Int)<=T.getD p.flags.toNat 0
 target:0<=p.target->p.target<p.code.length/\(p.code.length:Int)<=T.getD p.target.toNat 0
 branch:p.branch=0\/(33<=p.branch/\p.branch<=37)
 n64:p.code.length<=64
 RI:0<=p.RI/\p.RI<=16
 RJ:0<=p.RJ/\p.RJ<=16
 Sn:0<=p.Sn/\p.Sn<=16
 Sq:0<=p.Sq/\p.Sq<=16
 next:0<=p.next/\p.next<=4294967295
 taken:0<=p.taken/\p.taken<=4294967295
 count:1<=p.count/\p.count<=8
theorem HGo.fin{p:Pg}{pos:Nat}{f0:Int}{l:List HI}(ok:PgOk p T)(hN:N=p.code.length)(hp:Nc pl T N)(hV:wds V)(h:HGo C k (ul p pl pos++l) R W M)(hk:k=pos)(hl:l≠[])(hps:pos<=10000)(h15:R.getD 15 0=0)(hh:Gu pl T V N R W)(h1:W.getD 1 0=f0)(hf0:0<=f0/\f0<=15):
  M.words.getD 0 0=p.SR V (p.S6 V f0)/\M.words.getD 1 0=p.S6 V f0/\M.words.getD 36 0=p.count/\∀i,i≠0->i≠1->i≠36->M.words.getD i 0=W.getD i 0:=by
 subst hN;have hfl:=ok.flags;have htg:=ok.target;have hbr:=ok.branch;have hnx:=ok.next
 have htk:=ok.taken;have hct:=ok.count;have hC:C=C.take k++(ul p pl pos++l):=by rw[<-h.at_];exact(List.take_append_drop k C).symm
 obtain⟨rest,hrest⟩:∃rest,rest=jC p pl++(⟨15,0,15,9,0⟩::⟨1,11,0,0,IntKind.u32.wrap p.count⟩::⟨15,0,15,11,36⟩::⟨19,0,0,0,1⟩::l):=⟨_,rfl⟩;have e1:ul p pl pos++l=gR p pl++(⟨1,9,0,0,p.next⟩::(iu p (pos+(gR p pl).length+1)++rest)):=by
  rw[hrest];unfold ul;simp
 have hkl:C.length=k+(ul p pl pos++l).length:=by
  have h2:=h.at_;have h3:=congrArg List.length h2;rw[List.length_drop]at h3;have h4:0<(ul p pl pos++l).length:=by rw[aq];have:=List.length_pos_iff.2 hl;omega
  omega
 rw[e1]at h hkl;obtain⟨k1,R1,W1,g1,g2,g3,g4⟩:=HGo.flagsEnd hp hV h h15 hh hfl h1;have a1:=HGo.li (rd:=9) g1;have hf:0<=p.S6 V f0/\p.S6 V f0<=15:=by
  unfold Pg.S6;cases decide (0<=p.flags)with
  |true=>grind
  |false=>exact hf0
 have hrl:=h.rl;have hfle:(gR p pl).length<=5:=by
  unfold gR;cases decide (0<=p.flags)with
  |false=>grind
  |true=>
   grind [jY]
 obtain⟨k2,R2,b1,b2,b3⟩:=HGo.Tp (pos:=pos+(gR p pl).length+1) a1 (λhb=>by
   have h5:k1+1=_:=rfl;have h6:=congrArg List.length a1.at_
   grind) Wq1 (by rw[cK Wq7,g2 15 Wq7,h15]) hf g3 (cR (by rw[g1.rl];decide)) hbr
 have h15':R2.getD 15 0=0:=by rw[b3 15 Wq7,cK Wq7,g2 15 Wq7,h15]
 have hold2:Gu pl T V p.code.length R2 W1:=hh.mono hp (λj hj=>by rw[b3 j gZ,cK Wq1,g2 j gZ]) (λj hj=>g4 j Wq1);have tgt:∃k3 R3,HGo C k3 (⟨15,0,15,9,0⟩::⟨1,11,0,0,IntKind.u32.wrap p.count⟩::⟨15,0,15,11,36⟩::⟨19,0,0,0,1⟩::l) R3 W1 M/\R3.getD 9 0=p.SR V (p.S6 V f0)/\R3.getD 15 0=0:=by
  rw[hrest]at b1;unfold jC at b1;unfold Pg.SR;by_cases hd:0<=p.target
  .rw[ay hd]at b1|-;have b1:HGo C k2 (jY pl p.target 7++(⟨2,9,eC pl p.target 7,0,0⟩::(⟨15,0,15,9,0⟩::⟨1,11,0,0,IntKind.u32.wrap p.count⟩::⟨15,0,15,11,36⟩::⟨19,0,0,0,1⟩::l))) R2 W1 M:=by
    rw[ai,aw]at b1;exact b1
   obtain⟨k3,R3,r,c1,c2,c3,c4,c5⟩:=HGo.take7 hp hV b1 h15' hold2 ⟨hd,(htg hd).1,(htg hd).2⟩;rw[c2]at c1;have c6:=HGo.mov (rd:=9) (ra:=r) c1;rw[c4]at c6;exact⟨_,_,c6,cR (by rw[c1.rl];decide),by rw[cK Wq7,c5 15 Wq7,h15']⟩
  grind
 obtain⟨k3,R3,d1,d2,d3⟩:=tgt;have hpc:0<=p.SR V (p.S6 V f0)/\p.SR V (p.S6 V f0)<=4294967295:=by
  unfold Pg.SR;cases decide (0<=p.target)with
  |true=>exact iH hV _
  |false=>grind
 have hl3:=d1.rl;have hw3:=d1.wl;have x1:=HGo.st (ra:=15) (rb:=9) (p:=0) (v:=p.SR V (p.S6 V f0)) d1 (by rw[d3];rfl) Wq7 (by grind [IntKind.wrap_u32]);have x2:=HGo.li (rd:=11) x1;have x3:=HGo.st (ra:=15) (rb:=11) (p:=36) (v:=p.count) x2 (by rw[cK Wq7,d3];rfl) Wq7 (by grind [cR,IntKind.wrap_u32]);have x4:=HGo.exit x3
 grind
end
section
variable {pl:Pl}
theorem z8(n into:Int):(jY pl n into).length<=1:=by grind [jY]
theorem Pf(n r:Int):(jb pl n r).length<=1:=by grind [jb]
theorem MP(op rd a b:Int):(yz op rd a b).length<=3:=by grind [yz,zI,Rh]
theorem PG(op a b:Int):(mv op a b).length<=21:=by
 have h:=MP op 9 a b;unfold mv fS;cases op==16 with
 |true=>simp[kH,gY,ik,w8];omega
 |false=>
  grind [kG,gY,ik,w8]
theorem oneL_le(nd nr:Int)(n:Int)(x:II):(rO nd nr pl n x).length<=25:=by
 grind [Pf,eC,z8,MP,PG,rO]
theorem O2(nd nr:Int):∀(c:List II) (n:Nat),(jV nd nr pl c n).length<=25*c.length
 :=by intro y1;induction y1<;>grind [oneL_le,rO,jV]
theorem outL_le(base f:Int):∀(c:List Int) (n:Nat),(zF pl base f c n).length<=2*c.length
 :=by intro y1;induction y1<;>grind [z8,jY,zF]
theorem endL_le(p:Pg)(pos:Nat):(ul p pl pos).length<=20:=by
 have h1:(gR p pl).length<=4:=by
  unfold gR;have:=z8 (pl:=pl) p.flags 7;cases decide (0<=p.flags)with
  |true=>simp;omega
  |false=>simp
 have h2:∀q,(iu p q).length<=5:=λq=>by grind [iu]
 grind [jC,z8,gR,ul]
theorem work_le{p:Pg}(hn:p.code.length<=64)(hD:p.RV.length<=16)(hR:p.RX.length<=16):(iV p pl).length<=2000:=by
 grind [O2,outL_le,iV,iX]
theorem bodyL_len(p:Pg)(e:Int):(fm p pl e).length=(fm p pl 0).length:=by
 unfold fm tC pf;cases p.SK<;>cases p.SP<;>simp
end
structure Left(p:Pg)(V:List Int)(s:St)(W:List Int):Prop where
 RI:p.RI<=s.d.length
 Sn:(s.d.length:Int)+p.Sn<=16
 RJ:p.RJ<=s.r.length
 Sq:(s.r.length:Int)+p.Sq<=16
 pc:W.getD 0 0=p.SR V (p.S6 V s.flags)
 flags:W.getD 1 0=p.S6 V s.flags
 Tc:W.getD 2 0=((s.d.length - p.RI.toNat+p.RV.length:Nat):Int)
 lenR:W.getD 3 0=((s.r.length - p.RJ.toNat+p.RX.length:Nat):Int)
 fitD:s.d.length - p.RI.toNat+p.RV.length<=16
 fitR:s.r.length - p.RJ.toNat+p.RX.length<=16
 lowD:∀i,i<s.d.length - p.RI.toNat->W.getD (4+i) 0=s.d.getD i 0
 newD:∀i,i<p.RV.length->W.getD (4+(s.d.length - p.RI.toNat)+i) 0=V.getD (p.RV.getD i 0).toNat 0
 lowR:∀i,i<s.r.length - p.RJ.toNat->W.getD (20+i) 0=s.r.getD i 0
 newR:∀i,i<p.RX.length->W.getD (20+(s.r.length - p.RJ.toNat)+i) 0=V.getD (p.RX.getD i 0).toNat 0
 count:W.getD 36 0=p.count
theorem BU{RL high:Int}{out:Nat}:iZ RL high out<=16 - high/\iZ RL high out<=16+RL - out:=by
 grind [iZ]
theorem BV{RL high:Int}{out:Nat}(h0:0<=RL/\RL<=16)(h1:0<=high/\high<=16):iZ RL high out<=16/\(out<=16->0<=iZ RL high out):=by
 grind [iZ]
theorem PP{p:Pg}{T:List Int}{pl:Pl}{s:St}{M:HM}(ok:PgOk p T)(hp:Nc pl T p.code.length)(hs:s.right=true)(hw:s.wf)(h:HGo (gt p pl) 0 (gt p pl) (List.replicate 16 0) (Sz s) M):
  Left p (Si s.d s.r p.code) s M.words:=by
 obtain⟨hd16,hr16, -⟩:=St.fits hs;have hf15:0<=s.flags/\s.flags<=15:=⟨hw.flags.1,by grind [St.right]⟩;have hD:wds s.d:=λx hx=>hw.d x hx
 have hR:wds s.r:=λx hx=>hw.r x hx
 have hV:wds (Si s.d s.r p.code):=NB p.code hD hR ok.code;obtain⟨w0,w1,w2,w3⟩:=On s;obtain⟨e,he⟩:=Zgn ((fm p pl 0).length);have hnd:=ok.RI;have hnr:=ok.RJ;have hhd:=ok.Sn;have hhr:=ok.Sq;cases hrd:p.SK with
 |false=>
  have hb:∀e,fm p pl e=[⟨1,15,0,0,0⟩]:=λe=>by grind [fm]
  unfold gt at h;rw[hb]at h;have:=(HGo.exit (HGo.li (rd:=15) h)).1;cases this
 |true=>
 have hmD:p.RI<=p.SZ:=by unfold Pg.SK at hrd;simp at hrd;exact hrd
 have hmD2:=BU (RL:=p.RI) (high:=p.Sn) (out:=p.RV.length);have hmD3:=BV (RL:=p.RI) (high:=p.Sn) (out:=p.RV.length) hnd hhd;have hmD0:p.SZ=iZ p.RI p.Sn p.RV.length:=rfl;cases hrr:p.SP with
 |false=>
  have hb:∀e,fm p pl e=⟨1,15,0,0,0⟩::pf e 14 2 p.RI p.SZ:=λe=>by grind [fm]
  have h9:IntKind.u32.wrap ((fm p pl 0).length:Nat)=((9:Nat):Int):=by rw[hb];rfl
  unfold gt at h;rw[h9,hb]at h;have g:=HGo.li (rd:=15) h;obtain⟨-, -,k',R',g1, -⟩:=HGo.room (base:=14) (word:=2) (n:=s.d.length) (e:=9) (l:=[⟨19,0,0,0,2⟩]) (by exact g) Wq1 Wq1 (cR cH) (by rw[w2]) hd16 hnd Wq1 rfl;have:=(HGo.exit g1).1;cases this
 |true=>
 have hmR:p.RJ<=p.Tb:=by unfold Pg.SP at hrr;simp at hrr;exact hrr
 have hmR2:=BU (RL:=p.RJ) (high:=p.Sq) (out:=p.RX.length);have hmR3:=BV (RL:=p.RJ) (high:=p.Sq) (out:=p.RX.length) hnr hhr;have hmR0:p.Tb=iZ p.RJ p.Sq p.RX.length:=rfl;have hoD:p.RV.length<=16:=by omega
 have hoR:p.RX.length<=16:=by omega
 have hb:∀e,fm p pl e=tC p e++(iV p pl++ul p pl (17+(iV p pl).length)):=λe=>by grind [fm]
 have hwl:=work_le (pl:=pl) ok.n64 hoD hoR;have hel:=endL_le (pl:=pl) p (17+(iV p pl).length);have hh17:∀e,(tC p e).length=17:=λe=>rfl
 have hbl:(fm p pl 0).length=17+((iV p pl).length+(ul p pl (17+(iV p pl).length)).length):=by rw[hb,aq,aq,hh17]
 have hwr:IntKind.u32.wrap ((fm p pl 0).length:Nat)=(e:Int):=by rw[he,aC];omega
 obtain⟨C,hC⟩:=Zgn (gt p pl);rw[hC]at h;have hC2:C=fm p pl (e:Int)++[⟨19,0,0,0,2⟩]:=by rw[<-hC];unfold gt;rw[hwr]
 have hCe:C.drop e=[⟨19,0,0,0,2⟩]:=by
  rw[hC2,List.drop_append_of_le_length bR,List.drop_eq_nil_of_le bR];rfl
 have hC3:C=⟨1,15,0,0,0⟩::(pf e 14 2 p.RI p.SZ++(pf e 13 3 p.RJ p.Tb++(iV p pl++(ul p pl (17+(iV p pl).length)++[⟨19,0,0,0,2⟩])))):=by
  rw[hC2,hb];unfold tC;simp
 have h1:HGo C 0 (⟨1,15,0,0,0⟩::(pf e 14 2 p.RI p.SZ++(pf e 13 3 p.RJ p.Tb++(iV p pl++(ul p pl (17+(iV p pl).length)++[⟨19,0,0,0,2⟩]))))) (List.replicate 16 0) (Sz s) M:=⟨by grind,h.rl,h.wl,h.ends⟩;have g0:=HGo.li (rd:=15) h1;obtain⟨r1,r2,k1,R1,g1,b1,s1⟩:=HGo.room (base:=14) (word:=2) (n:=s.d.length) g0 Wq1 Wq1 (cR cH) (by rw[w2]) hd16 hnd Wq1 hCe;obtain⟨r3,r4,k2,R2,g2,b2,s2⟩:=HGo.room (base:=13) (word:=3) (n:=s.r.length) g1 Wq1 Wq1 (by rw[s1 15 Wq7];grind) (by rw[w3]) hr16 hnr Wq1 hCe;have hbase:QT s.d s.r p.RI p.RJ R2 (Sz s):=⟨by rw[s2 15 Wq7,s1 15 Wq7];grind,by rw[s2 14 Wq7,b1],b2,λj hj=>Re s j Wq1,λj hj=>Rc s j Wq1,hd16,hr16,⟨hnd.1,r1⟩,⟨hnr.1,r3⟩⟩;have g2:HGo C k2 (jV p.RI p.RJ pl p.code 0++(iX pl 14 4 2 p.RV++(iX pl 13 20 3 p.RX++(ul p pl (17+(iV p pl).length)++[⟨19,0,0,0,2⟩])))) R2 (Sz s) M:=by
  have e:iV p pl++(ul p pl (17+(iV p pl).length)++[⟨19,0,0,0,2⟩])=jV p.RI p.RJ pl p.code 0++(iX pl 14 4 2 p.RV++(iX pl 13 20 3 p.RX++(ul p pl (17+(iV p pl).length)++[⟨19,0,0,0,2⟩]))):=by
   rw[show iV p pl=jV p.RI p.RJ pl p.code 0++(iX pl 14 4 2 p.RV++iX pl 13 20 3 p.RX)from rfl];simp only[aw]
  rw[e]at g2;exact g2
 obtain⟨V,hVe⟩:=Zgn (Si s.d s.r p.code);have hVal:∀i x,p.code[i]? =some x->x.ok p.RI p.RJ (0+i)/\V.getD (0+i) 0=lc s.d s.r V x/\(x.op=3\/x.op=4->((0+i:Nat):Int)<=T.getD x.a.toNat 0/\((0+i:Nat):Int)<=T.getD x.b.toNat 0):=λi x hx=>by
  rw[Nat.zero_add];refine⟨ok.code i x hx,?_,ok.uses i x hx⟩;obtain⟨hlt,hxe⟩:=aj.1 hx;have hsp:p.code=p.code.take i++x::p.code.drop (i+1):=by rw[<-hxe,<-List.drop_eq_getElem_cons hlt,List.take_append_drop]
  grind [ok.code,vals_at]
 rw[hVe]at hV;obtain⟨k3,R3,W3,g3,b3,hold,ws3⟩:=HGo.all (N:=p.code.length) (V:=V) hp hD hR hV p.code 0 k2 R2 (Sz s) g2 Wq1 hVal hbase (λa ha=>absurd ha Wq1);have hBD:R3.getD 14 0=((s.d.length - p.RI.toNat:Nat):Int):=by rw[b3.bd];omega
 obtain⟨k4,R4,W4,g4,s4,o4,n4,l4,hold4⟩:=HGo.stack (B:=s.d.length - p.RI.toNat) hp hV Wq1 Wq1 Wq1 (base:=14) (from_:=4) (word:=2) g3 ok.RV Wq1 hBD b3.z hold;have hBR:R4.getD 13 0=((s.r.length - p.RJ.toNat:Nat):Int):=by rw[s4 13 Wq7,b3.br];omega
 obtain⟨k5,R5,W5,g5,s5,o5,n5,l5,hold5⟩:=HGo.stack (B:=s.r.length - p.RJ.toNat) hp hV Wq1 Wq1 Wq1 (base:=13) (from_:=20) (word:=3) g4 ok.RX Wq1 hBR (by rw[s4 15 Wq7,b3.z]) hold4;have hpos:k5=17+(iV p pl).length:=by
  have hpre:C=(tC p e++iV p pl)++(ul p pl (17+(iV p pl).length)++[⟨19,0,0,0,2⟩]):=by rw[hC2,hb];simp only[aw]
  have:=HGo.pos g5 cH hpre;rw[this,aq,hh17]
 have e1:W5.getD 1 0=s.flags:=by rw[o5 1 Wq7 Wq1,o4 1 Wq7 Wq1,ws3 1 Wq7,w1]
 obtain⟨f1,f2,f3,f4⟩:=HGo.fin ok rfl hp hV g5 hpos cH Wq1 (by rw[s5 15 Wq7,s4 15 Wq7,b3.z]) hold5 e1 hf15;rw[hVe];exact⟨r1,by omega,r3,by omega,f1,f2,by grind,by grind,by omega,by omega,
  λi hi=>by rw[f4 (4+i) Wq1 Wq1 Wq1,o5 (4+i) Wq1 Wq1,o4 (4+i) Wq1 Wq1,ws3 (4+i) Wq1,Re s i Wq1],
  λi hi=>by rw[f4 _ Wq1 Wq1 Wq1,o5 _ Wq1 Wq1,n4 i hi],
  λi hi=>by rw[f4 (20+i) Wq1 Wq1 Wq1,o5 (20+i) Wq1 Wq1,o4 (20+i) Wq1 Wq1,ws3 (20+i) Wq1,Rc s i Wq1],
  λi hi=>by rw[f4 _ Wq1 Wq1 Wq1,n5 i hi],f3⟩
def fX(T:List Int)(n at_:Int):List Int:=bif decide (0<=n)then T.set n.toNat (if at_>T.getD n.toNat 0 then at_ else T.getD n.toNat 0)else T
def ly(x:II):Bool:=x.op==3||x.op==4
def eZ:List II->Nat->List Int->List Int
 |[],_,T=>T
 |x::c,k,T=>eZ c (k+1) (bif ly x then fX (fX T x.a k) x.b k else T)
def jJ(T:List Int)(l:List Int)(at_:Int):List Int:=l.foldl (λT n=>fX T n at_) T
def iota(n:Nat):List Int:=(List.range n).map λk:Nat=>(k:Int)
def gl(p:Pg):List Int:=jJ (jJ (jJ (eZ p.code 0 (iota p.code.length)) p.RV p.code.length) p.RX p.code.length) [p.flags,p.target] p.code.length
def Up(A B:List Int):Prop:=B.length=A.length/\∀i,A.getD i 0<=B.getD i 0
theorem Up.refl(A:List Int):Up A A:=⟨rfl,λ_=>Int.le_refl _⟩
theorem Up.trans{A B D:List Int}(h:Up A B)(k:Up B D):Up A D:=⟨k.1.trans h.1,λi=>Int.le_trans (h.2 i) (k.2 i)⟩
theorem jU(T:List Int)(n a:Int):Up T (fX T n a):=by
 unfold fX;cases decide (0<=n)with
 |false=>exact Up.refl T
 |true=>
  refine⟨by grind,λi=>?_⟩
  grind
theorem yN{T:List Int}{n a:Int}(h0:0<=n)(h1:n.toNat<T.length):a<=(fX T n a).getD n.toNat 0:=by
 grind [fX,cR]
theorem jn:∀(l:List Int) (T:List Int) (a:Int),Up T (jJ T l a)
 |[],T,a=>Up.refl T
 |n::l,T,a=>(jU T n a).trans (jn l (fX T n a) a)
theorem qb:∀(l:List Int) (T:List Int) (a:Int),∀n,n∈l->0<=n->n.toNat<T.length->a<=(jJ T l a).getD n.toNat 0
 |[],_,_,n,hn,_,_=>by cases hn
 |m::l,T,a,n,hn,h0,h1=>by
  show a<=(jJ (fX T m a) l a).getD n.toNat 0;have hl:=(jU T m a).1;rcases aG.1 hn with rfl|hn
  .exact Int.le_trans (yN h0 h1) ((jn l (fX T n a) a).2 _)
  exact qb l (fX T m a) a n hn h0 Wq1
theorem ky:∀(c:List II) (k:Nat) (T:List Int),Up T (eZ c k T)
 |[],_,T=>Up.refl T
 |x::c,k,T=>by
  refine Up.trans ?_ (ky c (k+1) _);cases ly x with
  |true=>exact(jU T x.a k).trans (jU _ x.b k)
  |false=>exact Up.refl T
theorem vG:∀(c:List II) (k:Nat) (T:List Int) (i:Nat) (x:II),c[i]? =some x->ly x=true->(0<=x.a/\x.a.toNat<T.length)->(0<=x.b/\x.b.toNat<T.length)->
  ((k+i:Nat):Int)<=(eZ c k T).getD x.a.toNat 0/\((k+i:Nat):Int)<=(eZ c k T).getD x.b.toNat 0
 |[],_,_,i,x,h,_,_,_=>by cases h
 |y::c,k,T,0,x,h,hx,ha,hb=>by
  obtain rfl:y=x:=by grind
  have e:eZ (y::c) k T=eZ c (k+1) (fX (fX T y.a k) y.b k):=by
   show eZ c (k+1) (bif ly y then _ else _)=_;rw[hx];rfl
  have h1:=(jU T y.a k).1;have h2:=ky c (k+1) (fX (fX T y.a k) y.b k);have h3:=yN (T:=T) (a:=k) ha.1 ha.2;have h4:=yN (T:=fX T y.a k) (a:=k) hb.1 Wq1;have h5:=(jU (fX T y.a k) y.b k).2 y.a.toNat;rw[e,Nat.add_zero];exact⟨Int.le_trans h3 (Int.le_trans h5 (h2.2 _)),Int.le_trans h4 (h2.2 _)⟩
 |y::c,k,T,i+1,x,h,hx,ha,hb=>by
  have hl:(bif ly y then fX (fX T y.a k) y.b k else T).length=T.length:=by
   cases ly y with
   |true=>exact((jU T y.a k).trans (jU _ y.b k)).1
   |false=>rfl
  have:=vG c (k+1) (bif ly y then fX (fX T y.a k) y.b k else T) i x bR hx ⟨ha.1,by omega⟩ ⟨hb.1,by omega⟩;rw[show k+1+i=k+(i+1) by omega]at this;exact this
theorem Pj{n i:Nat}(h:i<n):(iota n).getD i 0=i:=by
 grind [iota]
theorem qL(n:Nat):(iota n).length=n:=by simp[iota]
theorem zQ(p:Pg):Up (eZ p.code 0 (iota p.code.length)) (gl p):=((jn _ _ _).trans (jn _ _ _)).trans (jn _ _ _)
theorem Pa(p:Pg):(gl p).length=p.code.length:=by rw[(zQ p).1,(ky _ _ _).1,qL]
theorem K9(p:Pg){i:Nat}(h:i<p.code.length):(i:Int)<=(gl p).getD i 0:=by
 have h1:=((ky p.code 0 (iota p.code.length)).trans (zQ p)).2 i
 grind [Pj]
theorem K8(p:Pg){n:Nat}{x:II}(h:p.code[n]? =some x)(hx:ly x=true)(ha:0<=x.a/\x.a<p.code.length)(hb:0<=x.b/\x.b<p.code.length):(n:Int)<=(gl p).getD x.a.toNat 0/\(n:Int)<=(gl p).getD x.b.toNat 0:=by
 have h1:=vG p.code 0 (iota p.code.length) n x h hx ⟨ha.1,by rw[qL];omega⟩ ⟨hb.1,by rw[qL];omega⟩;rw[Nat.zero_add]at h1;exact⟨Int.le_trans h1.1 ((zQ p).2 _),Int.le_trans h1.2 ((zQ p).2 _)⟩
theorem qK(p:Pg){n:Int}(h:n∈p.RV\/n∈p.RX\/n=p.flags\/n=p.target)(h0:0<=n/\n<p.code.length):(p.code.length:Int)<=(gl p).getD n.toNat 0:=by
 have l0:(eZ p.code 0 (iota p.code.length)).length=p.code.length:=by rw[(ky _ _ _).1,qL]
 have l1:=(jn p.RV (eZ p.code 0 (iota p.code.length)) p.code.length).1;have u2:=jn p.RX (jJ (eZ p.code 0 (iota p.code.length)) p.RV p.code.length) p.code.length;have l2:=u2.1;have u3:=jn [p.flags,p.target] (jJ (jJ (eZ p.code 0 (iota p.code.length)) p.RV p.code.length) p.RX p.code.length) p.code.length;rcases h with h|h|h
 .exact Int.le_trans (qb p.RV _ _ n h h0.1 Wq1) ((u2.trans u3).2 _)
 .exact Int.le_trans (qb p.RX _ _ n h h0.1 Wq1) (u3.2 _)
 exact qb [p.flags,p.target] _ _ n bR h0.1 Wq1
def np(T:List Int)(i j:Nat):Bool:=(decide ((i:Int)<T.getD j 0)&&decide ((j:Int)<T.getD i 0))||((i:Int)==(j:Int))
def eV(T place:List Int)(n:Nat)(k:Int):Nat->Bool
 |0=>false
 |i+1=>eV T place n k i||((place.getD i 0==k)&&np T i n)
def kF(T place:List Int)(n:Nat):Nat->Nat->Nat
 |0,k=>k
 |f+1,k=>bif eV T place n k place.length then kF T place n f (k+1)else k
def fF(T place:List Int)(n:Nat):Nat:=kF T place n place.length 0
def gj(T reg:List Int)(n:Nat):Nat->Nat
 |0=>n
 |k+1=>bif((reg.getD k 0 != -1)&&np T n k)&&decide (T.getD (gj T reg n k) 0<T.getD k 0)then k else gj T reg n k
def lh(T:List Int)(pl:Pl)(n:Nat):Pl:=
 ⟨pl.reg.set n (-1),pl.slot.set n (fF T pl.slot n),if((fF T pl.slot n:Nat):Int)+1>pl.Sm then((fF T pl.slot n:Nat):Int)+1 else pl.Sm⟩
def qm(T:List Int)(So:Int)(pl:Pl)(n:Nat):Pl:=
 bif decide (((fF T pl.reg n:Nat):Int)<So)then⟨pl.reg.set n (fF T pl.reg n),pl.slot,pl.Sm⟩else
 bif(gj T pl.reg n n !=n)then lh T ⟨pl.reg.set n (pl.reg.getD (gj T pl.reg n n) 0),pl.slot,pl.Sm⟩ (gj T pl.reg n n)else lh T pl n
def jr(T:List Int)(So:Int)(N:Nat):Nat->Pl
 |0=>⟨List.replicate N (-1),List.replicate N (-1),0⟩
 |n+1=>qm T So (jr T So N n) n
theorem Bp(T place:List Int)(n:Nat)(k:Int):∀m,eV T place n k m=true<->∃i,i<m/\place.getD i 0=k/\np T i n=true
 :=by intro y1;induction y1<;>grind [eV,np]
theorem pigeon(place:List Int)(h:∀k:Nat,k<=place.length->∃i,i<place.length/\place.getD i 0=(k:Int)):False:=by
 have hc:∃f:Nat->Nat,∀k,k<=place.length->f k<place.length/\place.getD (f k) 0=(k:Int):=by
  refine⟨λk=>if hk:k<=place.length then Classical.choose (h k hk)else 0,λk hk=>?_⟩;simp only[dif_pos hk];exact Classical.choose_spec (h k hk)
 obtain⟨f,hf⟩:=hc;have h1:=nj place.length ((List.range (place.length+1)).map f) ?_ ?_
 .simp at h1;omega
 .rw[List.Nodup,List.pairwise_map];refine List.Pairwise.imp_of_mem ?_ (List.nodup_range (n:=place.length+1));intro a b ha hb hab e;have h2:=(hf a (by have:=List.mem_range.1 ha;omega)).2;have h3:=(hf b (by have:=List.mem_range.1 hb;omega)).2;rw[e,h3]at h2;exact hab Wq1
 intro x hx;obtain⟨k,hk,rfl⟩:=bn.1 hx;exact(hf k (by have:=List.mem_range.1 hk;omega)).1
theorem Cr(T place:List Int)(n:Nat):∀f k,k+f=place.length->(∀j,j<k->eV T place n j place.length=true)->eV T place n (kF T place n f k) place.length=false/\kF T place n f k<=place.length/\∀j,j<kF T place n f k->eV T place n j place.length=true
 |0,k,hk,hb=>by
  refine⟨?_,by show k<=_;omega,hb⟩;show eV T place n k place.length=false;cases h:eV T place n k place.length with
  |false=>rfl
  |true=>
   refine(pigeon place λj hj=>?_).elim;have ht:eV T place n j place.length=true:=by
    by_cases e:j=k
    .rw[e];exact h
    exact hb j Wq1
   obtain⟨i,h1,h2, -⟩:=(Bp T place n j place.length).1 ht;exact⟨i,h1,h2⟩
 |f+1,k,hk,hb=>by
  cases h:eV T place n k place.length with
  |false=>
   have e:kF T place n (f+1) k=k:=by show(bif eV T place n k place.length then _ else k)=k;rw[h];rfl
   rw[e];exact⟨h,by omega,hb⟩
  |true=>
   have e:kF T place n (f+1) k=kF T place n f (k+1):=by show(bif eV T place n k place.length then kF T place n f (k+1)else k)=_;rw[h];rfl
   rw[e];exact Cr T place n f (k+1) Wq1 (λj hj=>by
    by_cases e:j=k
    ·rw[e];exact h
    exact hb j Wq1)
theorem sf(T place:List Int)(n:Nat):eV T place n (fF T place n) place.length=false/\fF T place n<=place.length/\∀j,j<fF T place n->eV T place n j place.length=true:=
 Cr T place n place.length 0 Wq1 (λj hj=>absurd hj Wq1)
theorem oD{T place:List Int}{n i:Nat}(hi:i<place.length)(h:place.getD i 0=(fF T place n:Nat)):np T i n=false:=by
 cases hm:np T i n with
 |false=>rfl
 |true=>
  have:=(Bp T place n (fF T place n) place.length).2 ⟨i,hi,h,hm⟩;rw[(sf T place n).1]at this;cases this
theorem D4{T:List Int}{i j:Nat}(h:np T i j=false)(hij:i<j)(hT:(j:Int)<=T.getD j 0):T.getD i 0<=j:=by
 unfold np at h;simp only[Bool.or_eq_false_iff,Bool.and_eq_false_iff,ac]at h;omega
theorem O0{T:List Int}{i j:Nat}(h:np T i j=false)(hij:j<i)(hT:(i:Int)<=T.getD i 0):T.getD j 0<=i:=by
 unfold np at h;simp only[Bool.or_eq_false_iff,Bool.and_eq_false_iff,ac]at h;omega
theorem vF(T reg:List Int)(n:Nat):∀k,gj T reg n k=n\/(gj T reg n k<k/\reg.getD (gj T reg n k) 0≠ -1/\np T n (gj T reg n k)=true)
 |0=>Or.inl rfl
 |k+1=>by
  have e:gj T reg n (k+1)=bif((reg.getD k 0 != -1)&&np T n k)&&decide (T.getD (gj T reg n k) 0<T.getD k 0)then k else gj T reg n k:=rfl
  cases hc:((reg.getD k 0 != -1)&&np T n k)&&decide (T.getD (gj T reg n k) 0<T.getD k 0)with
  |true=>
   rw[hc,ai]at e;rw[e];simp only[aD,bne_iff_ne,ne_eq]at hc;exact Or.inr ⟨by omega,hc.1.1,hc.1.2⟩
  |false=>
   rw[hc,ah]at e;rw[e];rcases vF T reg n k with h|⟨h1,h2⟩
   .exact Or.inl h
   exact Or.inr ⟨by omega,h2⟩
structure SInv(T:List Int)(So:Int)(N n:Nat)(pl:Pl):Prop where
 rl:pl.reg.length=N
 sl:pl.slot.length=N
 had:∀i,i<n->(0<=pl.reg.getD i 0/\pl.reg.getD i 0<So/\pl.slot.getD i 0= -1)\/(pl.reg.getD i 0= -1/\0<=pl.slot.getD i 0/\pl.slot.getD i 0<=N)
 new:∀i,n<=i->i<N->pl.reg.getD i 0= -1/\pl.slot.getD i 0= -1
 reg:∀i j,i<j->j<n->0<=pl.reg.getD i 0->pl.reg.getD i 0=pl.reg.getD j 0->T.getD i 0<=j
 slot:∀i j,i<j->j<n->0<=pl.slot.getD i 0->pl.slot.getD i 0=pl.slot.getD j 0->T.getD i 0<=j
theorem sinv0(T:List Int)(So:Int)(N:Nat):SInv T So N 0 (jr T So N 0):=
 ⟨by simp[jr],by simp[jr],λi hi=>absurd hi Wq1,λi _ hi=>by
  constructor<;>(show(List.replicate N (-1:Int)).getD i 0= -1;rw[List.getD_eq_getElem?_getD,List.getElem?_replicate_of_lt hi];rfl),λi j _ hj=>absurd hj Wq1,λi j _ hj=>absurd hj Wq1⟩
theorem JV{T:List Int}{So:Int}{N n:Nat}{pl:Pl}(hT:∀i,i<N->(i:Int)<=T.getD i 0)(h:SInv T So N n pl)(hn:n<N):SInv T So N (n+1) (qm T So pl n):=by
 have hrl:=h.rl;have hsl:=h.sl;obtain⟨nr,ns⟩:=h.new n (aL _) hn;unfold qm;by_cases hr:((fF T pl.reg n:Nat):Int)<So
 .rw[ay hr,ai];refine⟨by simp[hrl],hsl,λi hi=>?_,λi h1 h2=>?_,λi j hij hj h0 he=>?_,λi j hij hj h0 he=>?_⟩
  .by_cases e:i=n
   .subst e;refine Or.inl ?_;dsimp only;rw[cR Wq1];exact⟨by omega,hr,ns⟩
   dsimp only;rw[cK (λx=>e x.symm)];exact h.had i Wq1
  .dsimp only;rw[cK Wq1];exact h.new i Wq1 h2
  .dsimp only at h0 he;by_cases ej:j=n
   .subst ej;rw[cK Wq1,cR Wq1]at he;exact D4 (oD Wq1 he) hij (hT j hn)
   rw[cK Wq1,cK Wq1]at he;rw[cK Wq1]at h0;exact h.reg i j hij Wq1 h0 he
  by_cases ej:j=n
  .subst ej;dsimp only at h0 he;rw[ns]at he;omega
  exact h.slot i j hij Wq1 h0 he
 rw[ar hr,ah];rcases vF T pl.reg n n with hl|⟨l1,l2,l3⟩
 .rw[hl,show(n !=n)=false by simp,ah];unfold lh;have hf:=sf T pl.slot n;refine⟨by simp[hrl],by simp[hsl],λi hi=>?_,λi h1 h2=>?_,λi j hij hj h0 he=>?_,λi j hij hj h0 he=>?_⟩
  .dsimp only;by_cases e:i=n
   .subst e;refine Or.inr ?_;rw[cR Wq1,cR Wq1];exact⟨rfl,by omega,by omega⟩
   rw[cK (λx=>e x.symm),cK (λx=>e x.symm)];exact h.had i Wq1
  .dsimp only;rw[cK Wq1,cK Wq1];exact h.new i Wq1 h2
  .dsimp only at h0 he;rw[cK Wq1]at he h0;by_cases ej:j=n
   .subst ej;rw[cR Wq1]at he;omega
   rw[cK Wq1]at he;exact h.reg i j hij Wq1 h0 he
  dsimp only at h0 he;rw[cK Wq1]at he h0;by_cases ej:j=n
  .subst ej;rw[cR Wq1]at he;exact D4 (oD Wq1 he) hij (hT j hn)
  rw[cK Wq1]at he;exact h.slot i j hij Wq1 h0 he
 obtain⟨lg,hlg⟩:=Zgn (gj T pl.reg n n);rw[hlg]at l1 l2 l3|-;rw[show(lg !=n)=true by simp;omega,ai];have hm:(n:Int)<T.getD lg 0:=by
  unfold np at l3;simp only[Bool.or_eq_true,aD,ae,beq_iff_eq]at l3;omega
 obtain⟨hreg,hlt,hslot⟩:0<=pl.reg.getD lg 0/\pl.reg.getD lg 0<So/\pl.slot.getD lg 0= -1:=by
  rcases h.had lg l1 with q|⟨q, -⟩
  .exact q
  exact absurd q l2
 unfold lh;have hf:=sf T pl.slot lg;have er:∀i,i≠lg->i≠n->((pl.reg.set n (pl.reg.getD lg 0)).set lg (-1)).getD i 0=pl.reg.getD i 0:=λi h1 h2=>by rw[cK (λe=>h1 e.symm),cK (λe=>h2 e.symm)]
 have ern:((pl.reg.set n (pl.reg.getD lg 0)).set lg (-1)).getD n 0=pl.reg.getD lg 0:=by rw[cK Wq1,cR Wq1]
 have erl:((pl.reg.set n (pl.reg.getD lg 0)).set lg (-1)).getD lg 0= -1:=cR (by rw[List.length_set];omega);have es:∀i,i≠lg->(pl.slot.set lg ((fF T pl.slot lg:Nat):Int)).getD i 0=pl.slot.getD i 0:=λi h1=>cK (λe=>h1 e.symm)
 have esl:(pl.slot.set lg ((fF T pl.slot lg:Nat):Int)).getD lg 0=(fF T pl.slot lg:Nat):=cR Wq1;refine⟨by simp[hrl],by simp[hsl],λi hi=>?_,λi h1 h2=>?_,λi j hij hj h0 he=>?_,λi j hij hj h0 he=>?_⟩
 .dsimp only;by_cases e:i=lg
  .subst e;rw[erl,esl];exact Or.inr ⟨rfl,by omega,by omega⟩
  by_cases e2:i=n
  .subst e2;rw[ern,es _ e];exact Or.inl ⟨hreg,hlt,ns⟩
  rw[er i e e2,es i e];exact h.had i Wq1
 .dsimp only;rw[er i Wq1 Wq1,es i Wq1];exact h.new i Wq1 h2
 .dsimp only at h0 he;by_cases ei:i=lg
  .subst ei;rw[erl]at h0;omega
  rw[er i ei Wq1]at h0 he;by_cases ejn:j=n
  .subst ejn;rw[ern]at he;by_cases hil:i<lg
   .have:=h.reg i lg hil l1 h0 he;omega
   have:=h.reg lg i Wq1 Wq1 hreg he.symm;omega
  by_cases ejl:j=lg
  .subst ejl;rw[erl]at he;omega
  rw[er j ejl ejn]at he;exact h.reg i j hij Wq1 h0 he
 dsimp only at h0 he;by_cases ei:i=lg
 .subst ei;rw[es j Wq1]at he;rw[esl]at he;exact O0 (oD Wq1 he.symm) hij (hT j Wq1)
 rw[es i ei]at h0 he;by_cases ejl:j=lg
 .subst ejl;rw[esl]at he;exact D4 (oD Wq1 he) hij (hT j Wq1)
 rw[es j ejl]at he;by_cases ejn:j=n
 .subst ejn;rw[ns]at he;omega
 exact h.slot i j hij Wq1 h0 he
theorem Fh{T:List Int}{So:Int}{N:Nat}(hT:∀i,i<N->(i:Int)<=T.getD i 0):∀n,n<=N->SInv T So N n (jr T So N n)
 |0,_=>sinv0 T So N
 |n+1,h=>JV hT (Fh hT n Wq1) Wq1
theorem Kq{T:List Int}{N:Nat}(hT:∀i,i<N->(i:Int)<=T.getD i 0)(hN:N<=64):Nc (jr T 7 N N) T N:=by
 have h:=Fh (So:=7) hT N (aL _);obtain⟨pl,hpl⟩:=Zgn (jr T 7 N N);rw[hpl]at h|-;have e:∀n:Nat,pl.r n=pl.reg.getD n 0/\pl.s n=pl.slot.getD n 0:=λn=>by simp only[Pl.r,Pl.s,aM,and_self]
 have hin:∀n:Nat,pl.inR n=decide (0<=pl.reg.getD n 0):=λn=>by unfold Pl.inR;rw[(e n).1]
 refine⟨λn hn=>?_,λi j hij hj h1 h2 he=>?_,λi j hij hj h1 h2 he=>?_⟩
 .unfold Pl.has;rw[hin,(e n).1,(e n).2];rcases h.had n hn with⟨q1,q2, -⟩|⟨q1,q2,q3⟩
  .exact Or.inl ⟨ay q1,q2⟩
  exact Or.inr ⟨ar Wq1,q2,by omega⟩
 .rw[hin]at h1;rw[(e i).1,(e j).1]at he;exact h.reg i j hij hj (by simpa using h1) he
 rw[hin]at h1;rw[(e i).2,(e j).2]at he;refine h.slot i j hij hj ?_ he;rcases h.had i (by omega)with⟨q1, -⟩|⟨-,q, -⟩
 .rw[ay q1]at h1;cases h1
 exact q
end Go.Ink
