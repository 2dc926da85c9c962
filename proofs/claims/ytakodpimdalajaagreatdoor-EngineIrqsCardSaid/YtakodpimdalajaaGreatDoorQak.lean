/- Lemmas. -/
import Derived.Test.YtakodpimdalajaaGreatDoorQaa
import Derived.Test.YtakodpimdalajaaGreatDoorQab
import Derived.Test.YtakodpimdalajaaGreatDoorQaj
set_option linter.unusedSimpArgs false
set_option linter.unusedVariables false
set_option maxRecDepth 100000
set_option maxHeartbeats 4000000
namespace Go.Ink
open Go.RowKit
def jr(W:List Int)(from_:Nat)(l:List Int):Nat→List Int
 |0=>W
 |k+1=>(jr W from_ l k).set (from_+k) (l.getD k 0)
def IK(s:St):List Int:=(jr (jr (((((List.replicate 256 (0:Int)).set 0 s.pc).set 1 s.flags).set 2 (s.d.length:Int)).set 3 (s.r.length:Int)) 4 s.d 16) 20 s.r 16).set 36 0
theorem jF(W:List Int)(f:Nat)(l:List Int):∀k,(jr W f l k).length=W.length
 |0=>rfl
 |k+1=>by show((jr W f l k).set _ _).length=_;rw[aI,jF W f l k]
theorem uN(W:List Int)(f:Nat)(l:List Int):∀k,f+k≤W.length→∀j,j<k→(jr W f l k).getD (f+j) 0=l.getD j 0
 |0,_,j,hj=>absurd hj (by omega)
 |k+1,hk,j,hj=>by
  show((jr W f l k).set (f+k) (l.getD k 0)).getD (f+j) 0=_;by_cases e:j=k
  ·subst e;exact cV (by rw[jF];omega)
  rw[cF (by omega)];exact uN W f l k (by omega) j (by omega)
theorem gY(W:List Int)(f:Nat)(l:List Int):∀k,∀j,(j<f∨f+k≤j)→(jr W f l k).getD j 0=W.getD j 0
 |0,_,_=>rfl
 |k+1,j,hj=>by
  show((jr W f l k).set (f+k) (l.getD k 0)).getD j 0=_;rw[cF (by omega)];exact gY W f l k j (by omega)
theorem yH(s:St):(IK s).length=256:=by unfold IK;simp[jF]
theorem Fp(s:St):(IK s).getD 0 0=s.pc∧(IK s).getD 1 0=s.flags∧(IK s).getD 2 0=s.d.length∧(IK s).getD 3 0=s.r.length:=by
 unfold IK;refine⟨?_,?_,?_,?_⟩
 ·rw[cF (by decide),gY _ _ _ _ _ (by omega),gY _ _ _ _ _ (by omega),cF (by decide),cF (by decide),cF (by decide)];exact cV (by simp)
 ·rw[cF (by decide),gY _ _ _ _ _ (by omega),gY _ _ _ _ _ (by omega),cF (by decide),cF (by decide)];exact cV (by simp)
 ·rw[cF (by decide),gY _ _ _ _ _ (by omega),gY _ _ _ _ _ (by omega),cF (by decide)];exact cV (by simp)
 rw[cF (by decide),gY _ _ _ _ _ (by omega),gY _ _ _ _ _ (by omega)];exact cV (by simp)
theorem Hi(s:St)(j:Nat)(hj:j<16):(IK s).getD (4+j) 0=s.d.getD j 0:=by
 unfold IK;rw[cF (by omega),gY _ _ _ _ _ (by omega)];exact uN _ _ _ _ (by simp) j hj
theorem Hh(s:St)(j:Nat)(hj:j<16):(IK s).getD (20+j) 0=s.r.getD j 0:=by
 unfold IK;rw[cF (by omega)];exact uN _ _ _ _ (by simp[jF]) j hj
def Pg.Ja(p:Pg)(V:List Int)(f0:Int):Int:=bif decide (0≤p.flags)then V.getD p.flags.toNat 0%16 else f0
def Pg.I1(p:Pg)(V:List Int)(f:Int):Int:=bif decide (0≤p.target)then V.getD p.target.toNat 0 else bif(dc p.branch f).1 then p.taken else p.next
section
variable {C l:List HI} {k:Nat} {R W:List Int} {M:HM} {pl:Pl} {T V:List Int} {N:Nat}
theorem HGo.pos{pre:List HI}(h:HGo C k l R W M)(hl:l≠[])(hC:C=pre++l):k=pre.length:=by
 have h1:=congrArg List.length h.at_;have h2:=congrArg List.length hC;rw[bn]at h1;rw[ae]at h2;have h3:0<l.length:=List.length_pos_iff.2 hl;omega
theorem zx.mono{R' W':List Int}(hp:Et pl T N)(h:zx pl T V N R W)(hs:∀j,j<7→R'.getD j 0=R.getD j 0)(hw:∀j,64≤j→W'.getD j 0=W.getD j 0):zx pl T V N R' W':=fun a ha ht=>by
 have h1:=h a ha ht;have h2:=hp.has a ha;refine⟨fun hi=>?_,fun hi=>?_⟩
 ·have q1:0≤pl.r a:=by unfold Pl.inR at hi;simpa using hi
  have q2:pl.r a<7:=by rcases h2 with⟨-,q⟩|⟨q, -⟩;exact q;rw[hi]at q;cases q
  rw[hs _ (by omega)];exact h1.1 hi
 rw[hw _ (by omega)];exact h1.2 hi
theorem HGo.take7{n:Int}(hp:Et pl T N)(hV:wds V)(h:HGo C k (je pl n 7++l) R W M)(h15:R.getD 15 0=0)(hh:zx pl T V N R W)(hn:0≤n∧n<N∧(N:Int)≤T.getD n.toNat 0):
  ∃k' R' r,HGo C k' l R' W M∧dT pl n 7=(r:Nat)∧r<9∧R'.getD r 0=V.getD n.toNat 0∧jW [7] R R':=by
 obtain⟨n0,n1,n2⟩:=hn;have en:((n.toNat:Nat):Int)=n:=by omega
 have h1:=hp.has n.toNat (by omega);have h2:=hh n.toNat (by omega) n2;rw[en]at h1 h2;obtain⟨r,hr,hr2⟩:=kV h1 (into:=7) (by omega);have hr:dT pl n 7=(r:Int):=hr;obtain⟨k1,R1,g1,g2,g3⟩:=HGo.get (into:=7) h h1 (by omega) hr h15 h2;exact⟨k1,R1,r,g1,hr,by rcases hr2 with⟨q, -⟩|⟨q, -⟩<;>omega,g2,g3⟩
theorem GS{v:Nat}(hv:v<4294967296):bits .and .u64 15 (v:Int)=(v:Int)%16:=by
 have h1:=Ek (a:=15) (b:=v) (by decide) (by omega);rw[show((15:Nat):Int)=15 from rfl]at h1;rw[h1,Nat.and_comm,show(15:Nat)=2^4 - 1 from rfl,Nat.and_two_pow_sub_one_eq_mod];omega
theorem Gq:∀f:Nat,f<16→(bits .and .u64 (f:Int) 1=bits .and .u32 (f:Int) 1∧bits .and .u64 (f:Int) 2=bits .and .u32 (f:Int) 2∧bits .and .u64 (f:Int) 4=bits .and .u32 (f:Int) 4∧bits .and .u64 (f:Int) 8=bits .and .u32 (f:Int) 8):=by decide+kernel
theorem CZ{op f:Int}(hop:33≤op∧op≤37)(hf:0≤f∧f≤15):(dc op f).1=(bif gO op then bits .and .u64 f (fx op) !=0 else bits .and .u64 f (fx op)==0):=by
 obtain⟨n,rfl⟩:∃n:Nat,f=n:=ar hf.1;obtain⟨h1,h2,h3,h4⟩:=Gq n (by omega);have h:op=33∨op=34∨op=35∨op=36∨op=37:=by omega
 rcases h with rfl|rfl|rfl|rfl|rfl
 ·show(bits .and .u32 (n:Int) 1 !=0)=(bits .and .u64 (n:Int) 1 !=0);rw[h1]
 ·show(bits .and .u32 (n:Int) 1==0)=(bits .and .u64 (n:Int) 1==0);rw[h1]
 ·show(bits .and .u32 (n:Int) 4 !=0)=(bits .and .u64 (n:Int) 4 !=0);rw[h3]
 ·show(bits .and .u32 (n:Int) 2 !=0)=(bits .and .u64 (n:Int) 2 !=0);rw[h2]
 show(bits .and .u32 (n:Int) 8 !=0)=(bits .and .u64 (n:Int) 8 !=0);rw[h4]
theorem HGo.flagsEnd{p:Pg}{f0:Int}(hp:Et pl T N)(hV:wds V)(h:HGo C k (gu p pl++l) R W M)(h15:R.getD 15 0=0)(hh:zx pl T V N R W)(hf:0≤p.flags→p.flags<N∧(N:Int)≤T.getD p.flags.toNat 0)(h1:W.getD 1 0=f0):
  ∃k' R' W',HGo C k' l R' W' M∧jW [7,11] R R'∧W'.getD 1 0=p.Ja V f0∧∀i,i≠1→W'.getD i 0=W.getD i 0:=by
 unfold gu at h;unfold Pg.Ja;by_cases hd:0≤p.flags
 ·rw[aB hd]at h⊢;have h:HGo C k (⟨1,11,0,0,15⟩::(je pl p.flags 7++(⟨5,11,11,dT pl p.flags 7,0⟩::⟨15,0,15,11,1⟩::l))) R W M:=by
   have e:(⟨1,11,0,0,15⟩::(je pl p.flags 7++[⟨5,11,11,dT pl p.flags 7,0⟩,⟨15,0,15,11,1⟩]))++l=(⟨1,11,0,0,15⟩::(je pl p.flags 7++(⟨5,11,11,dT pl p.flags 7,0⟩::⟨15,0,15,11,1⟩::l)):List HI):=by simp
   rw[ac,e]at h;exact h
  have g0:=HGo.li (rd:=11) h;obtain⟨k1,R1,r,g1,g2,g3,g4,g5⟩:=HGo.take7 hp hV g0 (by rw[cF (by decide),h15]) (hh.mono hp (fun j hj=>cF (by omega)) (fun _ _=>rfl)) ⟨hd,(hf hd).1,(hf hd).2⟩;obtain⟨v,v1,v2⟩:=lr hV p.flags.toNat;rw[g2]at g1;have hl:=h.rl;have a1:=HGo.op (rd:=11) (ra:=11) (rb:=r) (v:=(v:Int)%16) g1 (by decide) (by decide) (by rw[g5 11 (by decide),cV (by omega),g4,v1];exact GS v2);have a2:=HGo.st (ra:=15) (rb:=11) (p:=1) (v:=(v:Int)%16) a1 (by rw[cF (by decide),g5 15 (by decide),cF (by decide),h15];rfl) (by decide) (by rw[cV (by rw[g1.rl];decide),aE];omega);refine⟨_,_,_,a2,?_,?_,fun i hi=>cF (fun e=>hi e.symm)⟩
  ·intro j hj;simp only[aL,bh,or_false,not_or]at hj;rw[cF (by omega),g5 j (by simp;omega),cF (by omega)]
  rw[cV (by rw[h.wl];decide),ac,v1]
 rw[aD hd]at h⊢;exact⟨k,R,W,h,jW.refl _ _,h1,fun _ _=>rfl⟩
theorem HGo.Js{p:Pg}{pos:Nat}{f:Int}(h:HGo C k (gf p pos++l) R W M)(hk:p.branch≠0→k=pos)(hps:pos≤100000)(h15:R.getD 15 0=0)(hf:0≤f∧f≤15)(h1:W.getD 1 0=f)(h9:R.getD 9 0=p.next)(hb:p.branch=0∨(33≤p.branch∧p.branch≤37)):
  ∃k' R',HGo C k' l R' W M∧R'.getD 9 0=(bif(dc p.branch f).1 then p.taken else p.next)∧jW [9,11,12] R R':=by
 unfold gf at h;rcases hb with hb|hb
 ·rw[hb]at h⊢;exact⟨k,R,h,h9,jW.refl _ _⟩
 rw[show(p.branch !=0)=true by simp;omega,ac]at h;have hk:=hk (by omega);have hl:=h.rl;have a1:=HGo.ld (rd:=11) (ra:=15) (p:=1) h (by rw[h15];rfl) (by decide);have a2:=HGo.li (rd:=12) a1;rw[h1]at a2;have hbit:=CZ hb hf;obtain⟨q,hq⟩:=Zgn (bits .and .u64 f (fx p.branch));rw[hq]at hbit;have a3:=HGo.op (rd:=11) (ra:=11) (rb:=12) (v:=q) a2 (by decide) (by decide) (by rw[cF (by decide),cV (by omega),cV (by rw[aI];omega)];exact hq);have e11:(((R.set 11 f).set 12 (fx p.branch)).set 11 q).getD 11 0=q:=cV (by simp only[aI];omega);have e9:(((R.set 11 f).set 12 (fx p.branch)).set 11 q).getD 9 0=p.next:=by rw[cF (by decide),cF (by decide),cF (by decide),h9]
 have ew:IntKind.u32.wrap (((pos+3:Nat):Int)+2)=((pos+5:Nat):Int):=by rw[aE];omega
 rw[ew]at a3;have hdrop:C.drop (pos+5)=l:=by
  have:=h.at_;rw[hk]at this;have h5:=congrArg (List.drop 5) this;rw[List.drop_drop]at h5;exact h5
 have same:jW [9,11,12] R (((R.set 11 f).set 12 (fx p.branch)).set 11 q):=by
  intro j hj;simp only[aL,bh,or_false,not_or]at hj;rw[cF (by omega),cF (by omega),cF (by omega)]
 have goOn:∀{k2:Nat},HGo C k2 (⟨1,9,0,0,p.taken⟩::l) (((R.set 11 f).set 12 (fx p.branch)).set 11 q) W M→(dc p.branch f).1=true→∃k' R',HGo C k' l R' W M∧R'.getD 9 0=(bif(dc p.branch f).1 then p.taken else p.next)∧jW [9,11,12] R R':=fun g he=>by
  refine⟨_,_,HGo.li (rd:=9) g,?_,same.trans (jW.set _ 9 _ (e:=[9]) (by simp)) (by intro z hz;simp at hz⊢;omega)⟩;rw[he];exact cV (by simp only[aI];omega)
 have stay:HGo C (pos+5) l (((R.set 11 f).set 12 (fx p.branch)).set 11 q) W M→(dc p.branch f).1=false→∃k' R',HGo C k' l R' W M∧R'.getD 9 0=(bif(dc p.branch f).1 then p.taken else p.next)∧jW [9,11,12] R R':=fun g he=>
  ⟨_,_,g,by rw[he];exact e9,same⟩
 cases hs:gO p.branch with
 |true=>
  rw[hs]at a3 hbit;have a4:=HGo.beqz (ra:=11) a3 hdrop;rw[e11]at a4;rcases a4 with⟨c,g⟩|⟨c,g⟩
  ·exact goOn g (by rw[hbit];show(q !=0)=true;simpa using c)
  exact stay g (by rw[hbit];show(q !=0)=false;simpa using c)
 |false=>
  rw[hs]at a3 hbit;have a4:=HGo.bnez (ra:=11) a3 hdrop;rw[e11]at a4;rcases a4 with⟨c,g⟩|⟨c,g⟩
  ·exact goOn g (by rw[hbit];show(q==0)=true;simpa using c)
  exact stay g (by rw[hbit];show(q==0)=false;simpa using c)
structure PgOk(p:Pg)(T:List Int):Prop where
 code:OkC p.Ia p.Ib p.code
 uses:∀(n:Nat) (x:II),p.code[n]? =some x→x.op=3∨x.op=4→(n:Int)≤T.getD x.a.toNat 0∧(n:Int)≤T.getD x.b.toNat 0
 Ij:∀n,n∈p.Ij→0≤n∧n<p.code.length∧(p.code.length:Int)≤T.getD n.toNat 0
 Ik:∀n,n∈p.Ik→0≤n∧n<p.code.length∧(p.code.length:Int)≤T.getD n.toNat 0
 flags:0≤p.flags→p.flags<p.code.length∧(p.code.length:Int)≤T.getD p.flags.toNat 0
 target:0≤p.target→p.target<p.code.length∧(p.code.length:Int)≤T.getD p.target.toNat 0
 branch:p.branch=0∨(33≤p.branch∧p.branch≤37)
 n64:p.code.length≤64
 Ia:0≤p.Ia∧p.Ia≤16
 Ib:0≤p.Ib∧p.Ib≤16
 IB:0≤p.IB∧p.IB≤16
 ID:0≤p.ID∧p.ID≤16
 next:0≤p.next∧p.next≤4294967295
 taken:0≤p.taken∧p.taken≤4294967295
 count:1≤p.count∧p.count≤8
theorem HGo.fin{p:Pg}{pos:Nat}{f0:Int}{l:List HI}(ok:PgOk p T)(hN:N=p.code.length)(hp:Et pl T N)(hV:wds V)(h:HGo C k (qi p pl pos++l) R W M)(hk:k=pos)(hl:l≠[])(hps:pos≤10000)(h15:R.getD 15 0=0)(hh:zx pl T V N R W)(h1:W.getD 1 0=f0)(hf0:0≤f0∧f0≤15):
  M.words.getD 0 0=p.I1 V (p.Ja V f0)∧M.words.getD 1 0=p.Ja V f0∧M.words.getD 36 0=p.count∧∀i,i≠0→i≠1→i≠36→M.words.getD i 0=W.getD i 0:=by
 subst hN;have hfl:=ok.flags;have htg:=ok.target;have hbr:=ok.branch;have hnx:=ok.next
 have htk:=ok.taken;have hct:=ok.count;have hC:C=C.take k++(qi p pl pos++l):=by rw[←h.at_];exact(List.take_append_drop k C).symm
 obtain⟨rest,hrest⟩:∃rest,rest=iN p pl++(⟨15,0,15,9,0⟩::⟨1,11,0,0,IntKind.u32.wrap p.count⟩::⟨15,0,15,11,36⟩::⟨19,0,0,0,1⟩::l):=⟨_,rfl⟩;have e1:qi p pl pos++l=gu p pl++(⟨1,9,0,0,p.next⟩::(gf p (pos+(gu p pl).length+1)++rest)):=by
  rw[hrest];unfold qi;simp
 have hkl:C.length=k+(qi p pl pos++l).length:=by
  have h2:=h.at_;have h3:=congrArg List.length h2;rw[bn]at h3;have h4:0<(qi p pl pos++l).length:=by rw[ae];have:=List.length_pos_iff.2 hl;omega
  omega
 rw[e1]at h hkl;obtain⟨k1,R1,W1,g1,g2,g3,g4⟩:=HGo.flagsEnd hp hV h h15 hh hfl h1;have a1:=HGo.li (rd:=9) g1;have hf:0≤p.Ja V f0∧p.Ja V f0≤15:=by
  unfold Pg.Ja;cases decide (0≤p.flags)with
  |true=>show 0≤V.getD p.flags.toNat 0%16∧V.getD p.flags.toNat 0%16≤15;omega
  |false=>exact hf0
 have hrl:=h.rl;have hfle:(gu p pl).length≤5:=by
  unfold gu;cases decide (0≤p.flags)with
  |false=>exact ax _
  |true=>
   show(_::(je pl p.flags 7++[_,_])).length≤5;have:(je pl p.flags 7).length≤1:=by unfold je;cases pl.inR p.flags<;>simp
   simp;omega
 obtain⟨k2,R2,b1,b2,b3⟩:=HGo.Js (pos:=pos+(gu p pl).length+1) a1 (fun hb=>by
   have h5:k1+1=_:=rfl;have h6:=congrArg List.length a1.at_;rw[bn]at h6;have h7:0<(gf p (pos+(gu p pl).length+1)++rest).length:=by
    rw[ae];unfold gf;rw[show(p.branch !=0)=true by simpa using hb];show 0<5+_;omega
   simp only[ae,ai]at hkl h6 h7;omega) (by omega) (by rw[cF (by decide),g2 15 (by decide),h15]) hf g3 (cV (by rw[g1.rl];decide)) hbr
 have h15':R2.getD 15 0=0:=by rw[b3 15 (by decide),cF (by decide),g2 15 (by decide),h15]
 have hold2:zx pl T V p.code.length R2 W1:=hh.mono hp (fun j hj=>by rw[b3 j (by simp;omega),cF (by omega),g2 j (by simp;omega)]) (fun j hj=>g4 j (by omega));have tgt:∃k3 R3,HGo C k3 (⟨15,0,15,9,0⟩::⟨1,11,0,0,IntKind.u32.wrap p.count⟩::⟨15,0,15,11,36⟩::⟨19,0,0,0,1⟩::l) R3 W1 M∧R3.getD 9 0=p.I1 V (p.Ja V f0)∧R3.getD 15 0=0:=by
  rw[hrest]at b1;unfold iN at b1;unfold Pg.I1;by_cases hd:0≤p.target
  ·rw[aB hd]at b1⊢;have b1:HGo C k2 (je pl p.target 7++(⟨2,9,dT pl p.target 7,0,0⟩::(⟨15,0,15,9,0⟩::⟨1,11,0,0,IntKind.u32.wrap p.count⟩::⟨15,0,15,11,36⟩::⟨19,0,0,0,1⟩::l))) R2 W1 M:=by
    rw[ac,aq]at b1;exact b1
   obtain⟨k3,R3,r,c1,c2,c3,c4,c5⟩:=HGo.take7 hp hV b1 h15' hold2 ⟨hd,(htg hd).1,(htg hd).2⟩;rw[c2]at c1;have c6:=HGo.mov (rd:=9) (ra:=r) c1;rw[c4]at c6;exact⟨_,_,c6,cV (by rw[c1.rl];decide),by rw[cF (by decide),c5 15 (by decide),h15']⟩
  rw[aD hd]at b1⊢;exact⟨k2,R2,b1,b2,h15'⟩
 obtain⟨k3,R3,d1,d2,d3⟩:=tgt;have hpc:0≤p.I1 V (p.Ja V f0)∧p.I1 V (p.Ja V f0)≤4294967295:=by
  unfold Pg.I1;cases decide (0≤p.target)with
  |true=>exact iu hV _
  |false=>cases(dc p.branch (p.Ja V f0)).1 with
   |true=>exact htk
   |false=>exact hnx
 have hl3:=d1.rl;have hw3:=d1.wl;have x1:=HGo.st (ra:=15) (rb:=9) (p:=0) (v:=p.I1 V (p.Ja V f0)) d1 (by rw[d3];rfl) (by decide) (by rw[d2,aE];omega);have x2:=HGo.li (rd:=11) x1;have x3:=HGo.st (ra:=15) (rb:=11) (p:=36) (v:=p.count) x2 (by rw[cF (by decide),d3];rfl) (by decide) (by rw[cV (by omega),aE,aE];omega);have x4:=HGo.exit x3;rw[x4.2];refine⟨?_,?_,?_,fun i h0 h1 h36=>?_⟩
 ·show((W1.set 0 _).set 36 _).getD 0 0=_;rw[cF (by decide),cV (by omega)]
 ·show((W1.set 0 _).set 36 _).getD 1 0=_;rw[cF (by decide),cF (by decide),g3]
 ·show((W1.set 0 _).set 36 _).getD 36 0=_;exact cV (by rw[aI];omega)
 show((W1.set 0 _).set 36 _).getD i 0=_;rw[cF (fun e=>h36 e.symm),cF (fun e=>h0 e.symm),g4 i h1]
end
section
variable {pl:Pl}
theorem rx(n into:Int):(je pl n into).length≤1:=by unfold je;cases pl.inR n<;>simp
theorem F4(n r:Int):(iQ pl n r).length≤1:=by unfold iQ;cases pl.inR n<;>simp
theorem Em(op rd a b:Int):(tJ op rd a b).length≤3:=by unfold tJ;cases uE op<;>simp[Ho]
theorem Gp(op a b:Int):(kW op a b).length≤21:=by
 have h:=Em op 9 a b;unfold kW fY;cases op==16 with
 |true=>simp[jM,gv,gL,r8];omega
 |false=>
  cases op==17||op==25 with
  |true=>simp[jL,gv,gL,r8];omega
  |false=>simp[gv,gL,r8];omega
theorem oneL_le(nd nr:Int)(n:Int)(x:II):(oR nd nr pl n x).length≤25:=by
 have h0:=F4 (pl:=pl) n (dT pl n 9);have h1:=rx (pl:=pl) x.a 7;have h2:=rx (pl:=pl) x.b 8;have h3:=Em x.imm (dT pl n 9) (dT pl x.a 7) (dT pl x.b 8);have h4:=Gp x.imm (dT pl x.a 7) (dT pl x.b 8);unfold oR;rw[ae];cases x.op==0 with
 |true=>simp;omega
 |false=>cases x.op==1 with
  |true=>simp;omega
  |false=>cases x.op==2 with
   |true=>simp;omega
   |false=>cases x.op==3 with
    |true=>simp only[ac,aa,ae];omega
    |false=>cases x.op==4 with
     |true=>simp only[ac,aa,ae,ai,ak];omega
     |false=>simp;omega
theorem yO(nd nr:Int):∀(c:List II) (n:Nat),(jq nd nr pl c n).length≤25*c.length
 |[],_=>ax _
 |x::c,n=>by
  have h1:=oneL_le (pl:=pl) nd nr n x;have h2:=yO nd nr c (n+1);show(oR nd nr pl n x++jq nd nr pl c (n+1)).length≤25*(c.length+1);rw[ae];omega
theorem xE(base f:Int):∀(c:List Int) (n:Nat),(sY pl base f c n).length≤2*c.length
 |[],_=>ax _
 |x::c,n=>by
  have h1:=rx (pl:=pl) x 7;have h2:=xE base f c (n+1);show(je pl x 7++(_::sY pl base f c (n+1))).length≤2*(c.length+1);rw[ae,ai];omega
theorem endL_le(p:Pg)(pos:Nat):(qi p pl pos).length≤20:=by
 have h1:(gu p pl).length≤4:=by
  unfold gu;have:=rx (pl:=pl) p.flags 7;cases decide (0≤p.flags)with
  |true=>simp;omega
  |false=>simp
 have h2:∀q,(gf p q).length≤5:=fun q=>by unfold gf;cases p.branch !=0<;>simp
 have h3:(iN p pl).length≤2:=by
  unfold iN;have:=rx (pl:=pl) p.target 7;cases decide (0≤p.target)with
  |true=>simp;omega
  |false=>simp
 have h4:=h2 (pos+(gu p pl).length+1);unfold qi;simp;omega
theorem work_le{p:Pg}(hn:p.code.length≤64)(hD:p.Ij.length≤16)(hR:p.Ik.length≤16):(iq p pl).length≤2000:=by
 have h1:=yO (pl:=pl) p.Ia p.Ib p.code 0;have h2:=xE (pl:=pl) 14 4 p.Ij 0;have h3:=xE (pl:=pl) 13 20 p.Ik 0;unfold iq gV;simp only[ae,ai,ak];omega
theorem wS(p:Pg)(e:Int):(fp p pl e).length=(fp p pl 0).length:=by
 unfold fp pR mQ;cases p.IM<;>cases p.IX<;>simp
end
structure Left(p:Pg)(V:List Int)(s:St)(W:List Int):Prop where
 Ia:p.Ia≤s.d.length
 IB:(s.d.length:Int)+p.IB≤16
 Ib:p.Ib≤s.r.length
 ID:(s.r.length:Int)+p.ID≤16
 pc:W.getD 0 0=p.I1 V (p.Ja V s.flags)
 flags:W.getD 1 0=p.Ja V s.flags
 Jk:W.getD 2 0=((s.d.length - p.Ia.toNat+p.Ij.length:Nat):Int)
 lenR:W.getD 3 0=((s.r.length - p.Ib.toNat+p.Ik.length:Nat):Int)
 fitD:s.d.length - p.Ia.toNat+p.Ij.length≤16
 fitR:s.r.length - p.Ib.toNat+p.Ik.length≤16
 lowD:∀i,i<s.d.length - p.Ia.toNat→W.getD (4+i) 0=s.d.getD i 0
 newD:∀i,i<p.Ij.length→W.getD (4+(s.d.length - p.Ia.toNat)+i) 0=V.getD (p.Ij.getD i 0).toNat 0
 lowR:∀i,i<s.r.length - p.Ib.toNat→W.getD (20+i) 0=s.r.getD i 0
 newR:∀i,i<p.Ik.length→W.getD (20+(s.r.length - p.Ib.toNat)+i) 0=V.getD (p.Ik.getD i 0).toNat 0
 count:W.getD 36 0=p.count
theorem vW{Ic high:Int}{out:Nat}:iK Ic high out≤16 - high∧iK Ic high out≤16+Ic - out:=by
 unfold iK;split<;>omega
theorem vX{Ic high:Int}{out:Nat}(h0:0≤Ic∧Ic≤16)(h1:0≤high∧high≤16):iK Ic high out≤16∧(out≤16→0≤iK Ic high out):=by
 unfold iK;split<;>omega
theorem Gu{p:Pg}{T:List Int}{pl:Pl}{s:St}{M:HM}(ok:PgOk p T)(hp:Et pl T p.code.length)(hs:s.right=true)(hw:s.wf)(h:HGo (gm p pl) 0 (gm p pl) (List.replicate 16 0) (IK s) M):
  Left p (IF s.d s.r p.code) s M.words:=by
 obtain⟨hd16,hr16, -⟩:=St.fits hs;have hf15:0≤s.flags∧s.flags≤15:=⟨hw.flags.1,by have:=hs;unfold St.right at this;simp at this;omega⟩;have hD:wds s.d:=fun x hx=>hw.d x hx
 have hR:wds s.r:=fun x hx=>hw.r x hx
 have hV:wds (IF s.d s.r p.code):=EG p.code hD hR ok.code;obtain⟨w0,w1,w2,w3⟩:=Fp s;obtain⟨e,he⟩:=Zgn ((fp p pl 0).length);have hnd:=ok.Ia;have hnr:=ok.Ib;have hhd:=ok.IB;have hhr:=ok.ID;cases hrd:p.IM with
 |false=>
  have hb:∀e,fp p pl e=[⟨1,15,0,0,0⟩]:=fun e=>by unfold fp;rw[hrd];rfl
  unfold gm at h;rw[hb]at h;have:=(HGo.exit (HGo.li (rd:=15) h)).1;cases this
 |true=>
 have hmD:p.Ia≤p.I6:=by unfold Pg.IM at hrd;simp at hrd;exact hrd
 have hmD2:=vW (Ic:=p.Ia) (high:=p.IB) (out:=p.Ij.length);have hmD3:=vX (Ic:=p.Ia) (high:=p.IB) (out:=p.Ij.length) hnd hhd;have hmD0:p.I6=iK p.Ia p.IB p.Ij.length:=rfl;cases hrr:p.IX with
 |false=>
  have hb:∀e,fp p pl e=⟨1,15,0,0,0⟩::mQ e 14 2 p.Ia p.I6:=fun e=>by unfold fp;rw[hrd,hrr];rfl
  have h9:IntKind.u32.wrap ((fp p pl 0).length:Nat)=((9:Nat):Int):=by rw[hb];rfl
  unfold gm at h;rw[h9,hb]at h;have g:=HGo.li (rd:=15) h;obtain⟨-, -,k',R',g1, -⟩:=HGo.room (base:=14) (word:=2) (n:=s.d.length) (e:=9) (l:=[⟨19,0,0,0,2⟩]) (by exact g) (by omega) (by omega) (cV (by simp)) (by rw[w2]) hd16 hnd (by omega) rfl;have:=(HGo.exit g1).1;cases this
 |true=>
 have hmR:p.Ib≤p.Jj:=by unfold Pg.IX at hrr;simp at hrr;exact hrr
 have hmR2:=vW (Ic:=p.Ib) (high:=p.ID) (out:=p.Ik.length);have hmR3:=vX (Ic:=p.Ib) (high:=p.ID) (out:=p.Ik.length) hnr hhr;have hmR0:p.Jj=iK p.Ib p.ID p.Ik.length:=rfl;have hoD:p.Ij.length≤16:=by omega
 have hoR:p.Ik.length≤16:=by omega
 have hb:∀e,fp p pl e=pR p e++(iq p pl++qi p pl (17+(iq p pl).length)):=fun e=>by unfold fp;rw[hrd,hrr];rfl
 have hwl:=work_le (pl:=pl) ok.n64 hoD hoR;have hel:=endL_le (pl:=pl) p (17+(iq p pl).length);have hh17:∀e,(pR p e).length=17:=fun e=>rfl
 have hbl:(fp p pl 0).length=17+((iq p pl).length+(qi p pl (17+(iq p pl).length)).length):=by rw[hb,ae,ae,hh17]
 have hwr:IntKind.u32.wrap ((fp p pl 0).length:Nat)=(e:Int):=by rw[he,aE];omega
 obtain⟨C,hC⟩:=Zgn (gm p pl);rw[hC]at h;have hC2:C=fp p pl (e:Int)++[⟨19,0,0,0,2⟩]:=by rw[←hC];unfold gm;rw[hwr]
 have hCe:C.drop e=[⟨19,0,0,0,2⟩]:=by
  rw[hC2,List.drop_append_of_le_length (by rw[wS,he];omega),List.drop_eq_nil_of_le (by rw[wS,he];omega)];rfl
 have hC3:C=⟨1,15,0,0,0⟩::(mQ e 14 2 p.Ia p.I6++(mQ e 13 3 p.Ib p.Jj++(iq p pl++(qi p pl (17+(iq p pl).length)++[⟨19,0,0,0,2⟩])))):=by
  rw[hC2,hb];unfold pR;simp
 have h1:HGo C 0 (⟨1,15,0,0,0⟩::(mQ e 14 2 p.Ia p.I6++(mQ e 13 3 p.Ib p.Jj++(iq p pl++(qi p pl (17+(iq p pl).length)++[⟨19,0,0,0,2⟩]))))) (List.replicate 16 0) (IK s) M:=⟨by rw[List.drop_zero];exact hC3,h.rl,h.wl,h.ends⟩;have g0:=HGo.li (rd:=15) h1;obtain⟨r1,r2,k1,R1,g1,b1,s1⟩:=HGo.room (base:=14) (word:=2) (n:=s.d.length) g0 (by omega) (by omega) (cV (by simp)) (by rw[w2]) hd16 hnd (by omega) hCe;obtain⟨r3,r4,k2,R2,g2,b2,s2⟩:=HGo.room (base:=13) (word:=3) (n:=s.r.length) g1 (by omega) (by omega) (by rw[s1 15 (by decide)];exact cV (by simp)) (by rw[w3]) hr16 hnr (by omega) hCe;have hbase:GZ s.d s.r p.Ia p.Ib R2 (IK s):=⟨by rw[s2 15 (by decide),s1 15 (by decide)];exact cV (by simp),by rw[s2 14 (by decide),b1],b2,fun j hj=>Hi s j (by omega),fun j hj=>Hh s j (by omega),hd16,hr16,⟨hnd.1,r1⟩,⟨hnr.1,r3⟩⟩;have g2:HGo C k2 (jq p.Ia p.Ib pl p.code 0++(gV pl 14 4 2 p.Ij++(gV pl 13 20 3 p.Ik++(qi p pl (17+(iq p pl).length)++[⟨19,0,0,0,2⟩])))) R2 (IK s) M:=by
  have e:iq p pl++(qi p pl (17+(iq p pl).length)++[⟨19,0,0,0,2⟩])=jq p.Ia p.Ib pl p.code 0++(gV pl 14 4 2 p.Ij++(gV pl 13 20 3 p.Ik++(qi p pl (17+(iq p pl).length)++[⟨19,0,0,0,2⟩]))):=by
   rw[show iq p pl=jq p.Ia p.Ib pl p.code 0++(gV pl 14 4 2 p.Ij++gV pl 13 20 3 p.Ik)from rfl];simp only[aq]
  rw[e]at g2;exact g2
 obtain⟨V,hVe⟩:=Zgn (IF s.d s.r p.code);have hVal:∀i x,p.code[i]? =some x→x.ok p.Ia p.Ib (0+i)∧V.getD (0+i) 0=ke s.d s.r V x∧(x.op=3∨x.op=4→((0+i:Nat):Int)≤T.getD x.a.toNat 0∧((0+i:Nat):Int)≤T.getD x.b.toNat 0):=fun i x hx=>by
  rw[bl];refine⟨ok.code i x hx,?_,ok.uses i x hx⟩;obtain⟨hlt,hxe⟩:=au.1 hx;have hsp:p.code=p.code.take i++x::p.code.drop (i+1):=by rw[←hxe,←List.drop_eq_getElem_cons hlt,List.take_append_drop]
  have hok:=ok.code;rw[←hVe];rw[hsp]at hok⊢;have:=vals_at (D:=s.d) (Rr:=s.r) hok;rw[aF,Nat.min_eq_left (by omega)]at this;exact this
 rw[hVe]at hV;obtain⟨k3,R3,W3,g3,b3,hold,ws3⟩:=HGo.all (N:=p.code.length) (V:=V) hp hD hR hV p.code 0 k2 R2 (IK s) g2 (by omega) hVal hbase (fun a ha=>absurd ha (by omega));have hBD:R3.getD 14 0=((s.d.length - p.Ia.toNat:Nat):Int):=by rw[b3.bd];omega
 obtain⟨k4,R4,W4,g4,s4,o4,n4,l4,hold4⟩:=HGo.stack (B:=s.d.length - p.Ia.toNat) hp hV (by omega) (by omega) (by omega) (base:=14) (from_:=4) (word:=2) g3 ok.Ij (by omega) hBD b3.z hold;have hBR:R4.getD 13 0=((s.r.length - p.Ib.toNat:Nat):Int):=by rw[s4 13 (by decide),b3.br];omega
 obtain⟨k5,R5,W5,g5,s5,o5,n5,l5,hold5⟩:=HGo.stack (B:=s.r.length - p.Ib.toNat) hp hV (by omega) (by omega) (by omega) (base:=13) (from_:=20) (word:=3) g4 ok.Ik (by omega) hBR (by rw[s4 15 (by decide),b3.z]) hold4;have hpos:k5=17+(iq p pl).length:=by
  have hpre:C=(pR p e++iq p pl)++(qi p pl (17+(iq p pl).length)++[⟨19,0,0,0,2⟩]):=by rw[hC2,hb];simp only[aq]
  have:=HGo.pos g5 (by simp) hpre;rw[this,ae,hh17]
 have e1:W5.getD 1 0=s.flags:=by rw[o5 1 (by decide) (by omega),o4 1 (by decide) (by omega),ws3 1 (by decide),w1]
 obtain⟨f1,f2,f3,f4⟩:=HGo.fin ok rfl hp hV g5 hpos (by simp) (by omega) (by rw[s5 15 (by decide),s4 15 (by decide),b3.z]) hold5 e1 hf15;rw[hVe];exact⟨r1,by omega,r3,by omega,f1,f2,by rw[f4 2 (by decide) (by decide) (by decide),o5 2 (by decide) (by omega),l4],by rw[f4 3 (by decide) (by decide) (by decide),l5],by omega,by omega,
  fun i hi=>by rw[f4 (4+i) (by omega) (by omega) (by omega),o5 (4+i) (by omega) (by omega),o4 (4+i) (by omega) (by omega),ws3 (4+i) (by omega),Hi s i (by omega)],
  fun i hi=>by rw[f4 _ (by omega) (by omega) (by omega),o5 _ (by omega) (by omega),n4 i hi],
  fun i hi=>by rw[f4 (20+i) (by omega) (by omega) (by omega),o5 (20+i) (by omega) (by omega),o4 (20+i) (by omega) (by omega),ws3 (20+i) (by omega),Hh s i (by omega)],
  fun i hi=>by rw[f4 _ (by omega) (by omega) (by omega),n5 i hi],f3⟩
def ga(T:List Int)(n at_:Int):List Int:=bif decide (0≤n)then T.set n.toNat (if at_>T.getD n.toNat 0 then at_ else T.getD n.toNat 0)else T
def kj(x:II):Bool:=x.op==3||x.op==4
def fg:List II→Nat→List Int→List Int
 |[],_,T=>T
 |x::c,k,T=>fg c (k+1) (bif kj x then ga (ga T x.a k) x.b k else T)
def jk(T:List Int)(l:List Int)(at_:Int):List Int:=l.foldl (fun T n=>ga T n at_) T
def iota(n:Nat):List Int:=(List.range n).map fun k:Nat=>(k:Int)
def gi(p:Pg):List Int:=jk (jk (jk (fg p.code 0 (iota p.code.length)) p.Ij p.code.length) p.Ik p.code.length) [p.flags,p.target] p.code.length
def Up(A B:List Int):Prop:=B.length=A.length∧∀i,A.getD i 0≤B.getD i 0
theorem Up.refl(A:List Int):Up A A:=⟨rfl,fun _=>bE _⟩
theorem Up.trans{A B D:List Int}(h:Up A B)(k:Up B D):Up A D:=⟨k.1.trans h.1,fun i=>Int.le_trans (h.2 i) (k.2 i)⟩
theorem jn(T:List Int)(n a:Int):Up T (ga T n a):=by
 unfold ga;cases decide (0≤n)with
 |false=>exact Up.refl T
 |true=>
  refine⟨by rw[ac,aI],fun i=>?_⟩;rw[ac];by_cases e:n.toNat=i
  ·subst e;by_cases hl:n.toNat<T.length
   ·rw[cV hl];split<;>omega
   rw[List.set_eq_of_length_le (by omega)];exact bE _
  rw[cF e];exact bE _
theorem tU{T:List Int}{n a:Int}(h0:0≤n)(h1:n.toNat<T.length):a≤(ga T n a).getD n.toNat 0:=by
 unfold ga;rw[aB h0,ac,cV h1];split<;>omega
theorem i4:∀(l:List Int) (T:List Int) (a:Int),Up T (jk T l a)
 |[],T,a=>Up.refl T
 |n::l,T,a=>(jn T n a).trans (i4 l (ga T n a) a)
theorem nv:∀(l:List Int) (T:List Int) (a:Int),∀n,n∈l→0≤n→n.toNat<T.length→a≤(jk T l a).getD n.toNat 0
 |[],_,_,n,hn,_,_=>by cases hn
 |m::l,T,a,n,hn,h0,h1=>by
  show a≤(jk (ga T m a) l a).getD n.toNat 0;have hl:=(jn T m a).1;rcases aL.1 hn with rfl|hn
  ·exact Int.le_trans (tU h0 h1) ((i4 l (ga T n a) a).2 _)
  exact nv l (ga T m a) a n hn h0 (by omega)
theorem jE:∀(c:List II) (k:Nat) (T:List Int),Up T (fg c k T)
 |[],_,T=>Up.refl T
 |x::c,k,T=>by
  refine Up.trans ?_ (jE c (k+1) _);cases kj x with
  |true=>exact(jn T x.a k).trans (jn _ x.b k)
  |false=>exact Up.refl T
theorem q8:∀(c:List II) (k:Nat) (T:List Int) (i:Nat) (x:II),c[i]? =some x→kj x=true→(0≤x.a∧x.a.toNat<T.length)→(0≤x.b∧x.b.toNat<T.length)→
  ((k+i:Nat):Int)≤(fg c k T).getD x.a.toNat 0∧((k+i:Nat):Int)≤(fg c k T).getD x.b.toNat 0
 |[],_,_,i,x,h,_,_,_=>by cases h
 |y::c,k,T,0,x,h,hx,ha,hb=>by
  obtain rfl:y=x:=by simpa using h
  have e:fg (y::c) k T=fg c (k+1) (ga (ga T y.a k) y.b k):=by
   show fg c (k+1) (bif kj y then _ else _)=_;rw[hx];rfl
  have h1:=(jn T y.a k).1;have h2:=jE c (k+1) (ga (ga T y.a k) y.b k);have h3:=tU (T:=T) (a:=k) ha.1 ha.2;have h4:=tU (T:=ga T y.a k) (a:=k) hb.1 (by omega);have h5:=(jn (ga T y.a k) y.b k).2 y.a.toNat;rw[e,Nat.add_zero];exact⟨Int.le_trans h3 (Int.le_trans h5 (h2.2 _)),Int.le_trans h4 (h2.2 _)⟩
 |y::c,k,T,i+1,x,h,hx,ha,hb=>by
  have hl:(bif kj y then ga (ga T y.a k) y.b k else T).length=T.length:=by
   cases kj y with
   |true=>exact((jn T y.a k).trans (jn _ y.b k)).1
   |false=>rfl
  have:=q8 c (k+1) (bif kj y then ga (ga T y.a k) y.b k else T) i x (by simpa using h) hx ⟨ha.1,by omega⟩ ⟨hb.1,by omega⟩;rw[show k+1+i=k+(i+1) by omega]at this;exact this
theorem Ga{n i:Nat}(h:i<n):(iota n).getD i 0=i:=by
 unfold iota;rw[aw,aZ,List.getElem?_range h];rfl
theorem nW(n:Nat):(iota n).length=n:=by simp[iota]
theorem uL(p:Pg):Up (fg p.code 0 (iota p.code.length)) (gi p):=((i4 _ _ _).trans (i4 _ _ _)).trans (i4 _ _ _)
theorem FY(p:Pg):(gi p).length=p.code.length:=by rw[(uL p).1,(jE _ _ _).1,nW]
theorem CR(p:Pg){i:Nat}(h:i<p.code.length):(i:Int)≤(gi p).getD i 0:=by
 have h1:=((jE p.code 0 (iota p.code.length)).trans (uL p)).2 i;rw[Ga h]at h1;exact h1
theorem CQ(p:Pg){n:Nat}{x:II}(h:p.code[n]? =some x)(hx:kj x=true)(ha:0≤x.a∧x.a<p.code.length)(hb:0≤x.b∧x.b<p.code.length):(n:Int)≤(gi p).getD x.a.toNat 0∧(n:Int)≤(gi p).getD x.b.toNat 0:=by
 have h1:=q8 p.code 0 (iota p.code.length) n x h hx ⟨ha.1,by rw[nW];omega⟩ ⟨hb.1,by rw[nW];omega⟩;rw[bl]at h1;exact⟨Int.le_trans h1.1 ((uL p).2 _),Int.le_trans h1.2 ((uL p).2 _)⟩
theorem nT(p:Pg){n:Int}(h:n∈p.Ij∨n∈p.Ik∨n=p.flags∨n=p.target)(h0:0≤n∧n<p.code.length):(p.code.length:Int)≤(gi p).getD n.toNat 0:=by
 have l0:(fg p.code 0 (iota p.code.length)).length=p.code.length:=by rw[(jE _ _ _).1,nW]
 have l1:=(i4 p.Ij (fg p.code 0 (iota p.code.length)) p.code.length).1;have u2:=i4 p.Ik (jk (fg p.code 0 (iota p.code.length)) p.Ij p.code.length) p.code.length;have l2:=u2.1;have u3:=i4 [p.flags,p.target] (jk (jk (fg p.code 0 (iota p.code.length)) p.Ij p.code.length) p.Ik p.code.length) p.code.length;rcases h with h|h|h
 ·exact Int.le_trans (nv p.Ij _ _ n h h0.1 (by omega)) ((u2.trans u3).2 _)
 ·exact Int.le_trans (nv p.Ik _ _ n h h0.1 (by omega)) (u3.2 _)
 exact nv [p.flags,p.target] _ _ n (by simpa using h) h0.1 (by omega)
def lK(T:List Int)(i j:Nat):Bool:=(decide ((i:Int)<T.getD j 0)&&decide ((j:Int)<T.getD i 0))||((i:Int)==(j:Int))
def eY(T place:List Int)(n:Nat)(k:Int):Nat→Bool
 |0=>false
 |i+1=>eY T place n k i||((place.getD i 0==k)&&lK T i n)
def jK(T place:List Int)(n:Nat):Nat→Nat→Nat
 |0,k=>k
 |f+1,k=>bif eY T place n k place.length then jK T place n f (k+1)else k
def fG(T place:List Int)(n:Nat):Nat:=jK T place n place.length 0
def gh(T reg:List Int)(n:Nat):Nat→Nat
 |0=>n
 |k+1=>bif((reg.getD k 0 != -1)&&lK T n k)&&decide (T.getD (gh T reg n k) 0<T.getD k 0)then k else gh T reg n k
def kg(T:List Int)(pl:Pl)(n:Nat):Pl:=
 ⟨pl.reg.set n (-1),pl.slot.set n (fG T pl.slot n),if((fG T pl.slot n:Nat):Int)+1>pl.IC then((fG T pl.slot n:Nat):Int)+1 else pl.IC⟩
def lD(T:List Int)(Ix:Int)(pl:Pl)(n:Nat):Pl:=
 bif decide (((fG T pl.reg n:Nat):Int)<Ix)then⟨pl.reg.set n (fG T pl.reg n),pl.slot,pl.IC⟩else
 bif(gh T pl.reg n n !=n)then kg T ⟨pl.reg.set n (pl.reg.getD (gh T pl.reg n n) 0),pl.slot,pl.IC⟩ (gh T pl.reg n n)else kg T pl n
def gJ(T:List Int)(Ix:Int)(N:Nat):Nat→Pl
 |0=>⟨List.replicate N (-1),List.replicate N (-1),0⟩
 |n+1=>lD T Ix (gJ T Ix N n) n
theorem qB(T place:List Int)(n:Nat)(k:Int):∀m,eY T place n k m=true↔∃i,i<m∧place.getD i 0=k∧lK T i n=true
 |0=>⟨fun h=>by(cases h),fun⟨i,h,_⟩=>absurd h (by omega)⟩
 |m+1=>by
  show(eY T place n k m||((place.getD m 0==k)&&lK T m n))=true↔_;rw[Bool.or_eq_true,qB T place n k m,az,beq_iff_eq];constructor
  ·rintro(⟨i,h1,h2⟩|⟨h1,h2⟩)
   ·exact⟨i,by omega,h2⟩
   exact⟨m,by omega,h1,h2⟩
  rintro⟨i,h1,h2,h3⟩;by_cases e:i=m
  ·subst e;exact Or.inr ⟨h2,h3⟩
  exact Or.inl ⟨i,by omega,h2,h3⟩
theorem pigeon(place:List Int)(h:∀k:Nat,k≤place.length→∃i,i<place.length∧place.getD i 0=(k:Int)):False:=by
 have hc:∃f:Nat→Nat,∀k,k≤place.length→f k<place.length∧place.getD (f k) 0=(k:Int):=by
  refine⟨fun k=>if hk:k≤place.length then Classical.choose (h k hk)else 0,fun k hk=>?_⟩;simp only[dif_pos hk];exact Classical.choose_spec (h k hk)
 obtain⟨f,hf⟩:=hc;have h1:=lI place.length ((List.range (place.length+1)).map f) ?_ ?_
 ·simp at h1;omega
 ·rw[List.Nodup,List.pairwise_map];refine List.Pairwise.imp_of_mem ?_ (List.nodup_range (n:=place.length+1));intro a b ha hb hab e;have h2:=(hf a (by have:=List.mem_range.1 ha;omega)).2;have h3:=(hf b (by have:=List.mem_range.1 hb;omega)).2;rw[e,h3]at h2;exact hab (by omega)
 intro x hx;obtain⟨k,hk,rfl⟩:=aY.1 hx;exact(hf k (by have:=List.mem_range.1 hk;omega)).1
theorem wA(T place:List Int)(n:Nat):∀f k,k+f=place.length→(∀j,j<k→eY T place n j place.length=true)→eY T place n (jK T place n f k) place.length=false∧jK T place n f k≤place.length∧∀j,j<jK T place n f k→eY T place n j place.length=true
 |0,k,hk,hb=>by
  refine⟨?_,by show k≤_;omega,hb⟩;show eY T place n k place.length=false;cases h:eY T place n k place.length with
  |false=>rfl
  |true=>
   refine(pigeon place fun j hj=>?_).elim;have ht:eY T place n j place.length=true:=by
    by_cases e:j=k
    ·rw[e];exact h
    exact hb j (by omega)
   obtain⟨i,h1,h2, -⟩:=(qB T place n j place.length).1 ht;exact⟨i,h1,h2⟩
 |f+1,k,hk,hb=>by
  cases h:eY T place n k place.length with
  |false=>
   have e:jK T place n (f+1) k=k:=by show(bif eY T place n k place.length then _ else k)=k;rw[h];rfl
   rw[e];exact⟨h,by omega,hb⟩
  |true=>
   have e:jK T place n (f+1) k=jK T place n f (k+1):=by show(bif eY T place n k place.length then jK T place n f (k+1)else k)=_;rw[h];rfl
   rw[e];exact wA T place n f (k+1) (by omega) (fun j hj=>by
    by_cases e:j=k
    ·rw[e];exact h
    exact hb j (by omega))
theorem o6(T place:List Int)(n:Nat):eY T place n (fG T place n) place.length=false∧fG T place n≤place.length∧∀j,j<fG T place n→eY T place n j place.length=true:=
 wA T place n place.length 0 (by omega) (fun j hj=>absurd hj (by omega))
theorem mB{T place:List Int}{n i:Nat}(hi:i<place.length)(h:place.getD i 0=(fG T place n:Nat)):lK T i n=false:=by
 cases hm:lK T i n with
 |false=>rfl
 |true=>
  have:=(qB T place n (fG T place n) place.length).2 ⟨i,hi,h,hm⟩;rw[(o6 T place n).1]at this;cases this
theorem xO{T:List Int}{i j:Nat}(h:lK T i j=false)(hij:i<j)(hT:(j:Int)≤T.getD j 0):T.getD i 0≤j:=by
 unfold lK at h;simp only[bj,Bool.and_eq_false_iff,aj]at h;omega
theorem FQ{T:List Int}{i j:Nat}(h:lK T i j=false)(hij:j<i)(hT:(i:Int)≤T.getD i 0):T.getD j 0≤i:=by
 unfold lK at h;simp only[bj,Bool.and_eq_false_iff,aj]at h;omega
theorem q7(T reg:List Int)(n:Nat):∀k,gh T reg n k=n∨(gh T reg n k<k∧reg.getD (gh T reg n k) 0≠ -1∧lK T n (gh T reg n k)=true)
 |0=>Or.inl rfl
 |k+1=>by
  have e:gh T reg n (k+1)=bif((reg.getD k 0 != -1)&&lK T n k)&&decide (T.getD (gh T reg n k) 0<T.getD k 0)then k else gh T reg n k:=rfl
  cases hc:((reg.getD k 0 != -1)&&lK T n k)&&decide (T.getD (gh T reg n k) 0<T.getD k 0)with
  |true=>
   rw[hc,ac]at e;rw[e];simp only[az,bne_iff_ne,ne_eq]at hc;exact Or.inr ⟨by omega,hc.1.1,hc.1.2⟩
  |false=>
   rw[hc,aa]at e;rw[e];rcases q7 T reg n k with h|⟨h1,h2⟩
   ·exact Or.inl h
   exact Or.inr ⟨by omega,h2⟩
structure SInv(T:List Int)(Ix:Int)(N n:Nat)(pl:Pl):Prop where
 rl:pl.reg.length=N
 sl:pl.slot.length=N
 had:∀i,i<n→(0≤pl.reg.getD i 0∧pl.reg.getD i 0<Ix∧pl.slot.getD i 0= -1)∨(pl.reg.getD i 0= -1∧0≤pl.slot.getD i 0∧pl.slot.getD i 0≤N)
 new:∀i,n≤i→i<N→pl.reg.getD i 0= -1∧pl.slot.getD i 0= -1
 reg:∀i j,i<j→j<n→0≤pl.reg.getD i 0→pl.reg.getD i 0=pl.reg.getD j 0→T.getD i 0≤j
 slot:∀i j,i<j→j<n→0≤pl.slot.getD i 0→pl.slot.getD i 0=pl.slot.getD j 0→T.getD i 0≤j
theorem sinv0(T:List Int)(Ix:Int)(N:Nat):SInv T Ix N 0 (gJ T Ix N 0):=
 ⟨by simp[gJ],by simp[gJ],fun i hi=>absurd hi (by omega),fun i _ hi=>by
  constructor<;>(show(List.replicate N (-1:Int)).getD i 0= -1;rw[aw,List.getElem?_replicate_of_lt hi];rfl),fun i j _ hj=>absurd hj (by omega),fun i j _ hj=>absurd hj (by omega)⟩
theorem B7{T:List Int}{Ix:Int}{N n:Nat}{pl:Pl}(hT:∀i,i<N→(i:Int)≤T.getD i 0)(h:SInv T Ix N n pl)(hn:n<N):SInv T Ix N (n+1) (lD T Ix pl n):=by
 have hrl:=h.rl;have hsl:=h.sl;obtain⟨nr,ns⟩:=h.new n (aS _) hn;unfold lD;by_cases hr:((fG T pl.reg n:Nat):Int)<Ix
 ·rw[aB hr,ac];refine⟨by simp[hrl],hsl,fun i hi=>?_,fun i h1 h2=>?_,fun i j hij hj h0 he=>?_,fun i j hij hj h0 he=>?_⟩
  ·by_cases e:i=n
   ·subst e;refine Or.inl ?_;dsimp only;rw[cV (by omega)];exact⟨by omega,hr,ns⟩
   dsimp only;rw[cF (fun x=>e x.symm)];exact h.had i (by omega)
  ·dsimp only;rw[cF (by omega)];exact h.new i (by omega) h2
  ·dsimp only at h0 he;by_cases ej:j=n
   ·subst ej;rw[cF (by omega),cV (by omega)]at he;exact xO (mB (by omega) he) hij (hT j hn)
   rw[cF (by omega),cF (by omega)]at he;rw[cF (by omega)]at h0;exact h.reg i j hij (by omega) h0 he
  by_cases ej:j=n
  ·subst ej;dsimp only at h0 he;rw[ns]at he;omega
  exact h.slot i j hij (by omega) h0 he
 rw[aD hr,aa];rcases q7 T pl.reg n n with hl|⟨l1,l2,l3⟩
 ·rw[hl,show(n !=n)=false by simp,aa];unfold kg;have hf:=o6 T pl.slot n;refine⟨by simp[hrl],by simp[hsl],fun i hi=>?_,fun i h1 h2=>?_,fun i j hij hj h0 he=>?_,fun i j hij hj h0 he=>?_⟩
  ·dsimp only;by_cases e:i=n
   ·subst e;refine Or.inr ?_;rw[cV (by omega),cV (by omega)];exact⟨rfl,by omega,by omega⟩
   rw[cF (fun x=>e x.symm),cF (fun x=>e x.symm)];exact h.had i (by omega)
  ·dsimp only;rw[cF (by omega),cF (by omega)];exact h.new i (by omega) h2
  ·dsimp only at h0 he;rw[cF (by omega)]at he h0;by_cases ej:j=n
   ·subst ej;rw[cV (by omega)]at he;omega
   rw[cF (by omega)]at he;exact h.reg i j hij (by omega) h0 he
  dsimp only at h0 he;rw[cF (by omega)]at he h0;by_cases ej:j=n
  ·subst ej;rw[cV (by omega)]at he;exact xO (mB (by omega) he) hij (hT j hn)
  rw[cF (by omega)]at he;exact h.slot i j hij (by omega) h0 he
 obtain⟨lg,hlg⟩:=Zgn (gh T pl.reg n n);rw[hlg]at l1 l2 l3⊢;rw[show(lg !=n)=true by simp;omega,ac];have hm:(n:Int)<T.getD lg 0:=by
  unfold lK at l3;simp only[Bool.or_eq_true,az,ap,beq_iff_eq]at l3;omega
 obtain⟨hreg,hlt,hslot⟩:0≤pl.reg.getD lg 0∧pl.reg.getD lg 0<Ix∧pl.slot.getD lg 0= -1:=by
  rcases h.had lg l1 with q|⟨q, -⟩
  ·exact q
  exact absurd q l2
 unfold kg;have hf:=o6 T pl.slot lg;have er:∀i,i≠lg→i≠n→((pl.reg.set n (pl.reg.getD lg 0)).set lg (-1)).getD i 0=pl.reg.getD i 0:=fun i h1 h2=>by rw[cF (fun e=>h1 e.symm),cF (fun e=>h2 e.symm)]
 have ern:((pl.reg.set n (pl.reg.getD lg 0)).set lg (-1)).getD n 0=pl.reg.getD lg 0:=by rw[cF (by omega),cV (by omega)]
 have erl:((pl.reg.set n (pl.reg.getD lg 0)).set lg (-1)).getD lg 0= -1:=cV (by rw[aI];omega);have es:∀i,i≠lg→(pl.slot.set lg ((fG T pl.slot lg:Nat):Int)).getD i 0=pl.slot.getD i 0:=fun i h1=>cF (fun e=>h1 e.symm)
 have esl:(pl.slot.set lg ((fG T pl.slot lg:Nat):Int)).getD lg 0=(fG T pl.slot lg:Nat):=cV (by omega);refine⟨by simp[hrl],by simp[hsl],fun i hi=>?_,fun i h1 h2=>?_,fun i j hij hj h0 he=>?_,fun i j hij hj h0 he=>?_⟩
 ·dsimp only;by_cases e:i=lg
  ·subst e;rw[erl,esl];exact Or.inr ⟨rfl,by omega,by omega⟩
  by_cases e2:i=n
  ·subst e2;rw[ern,es _ e];exact Or.inl ⟨hreg,hlt,ns⟩
  rw[er i e e2,es i e];exact h.had i (by omega)
 ·dsimp only;rw[er i (by omega) (by omega),es i (by omega)];exact h.new i (by omega) h2
 ·dsimp only at h0 he;by_cases ei:i=lg
  ·subst ei;rw[erl]at h0;omega
  rw[er i ei (by omega)]at h0 he;by_cases ejn:j=n
  ·subst ejn;rw[ern]at he;by_cases hil:i<lg
   ·have:=h.reg i lg hil l1 h0 he;omega
   have:=h.reg lg i (by omega) (by omega) hreg he.symm;omega
  by_cases ejl:j=lg
  ·subst ejl;rw[erl]at he;omega
  rw[er j ejl ejn]at he;exact h.reg i j hij (by omega) h0 he
 dsimp only at h0 he;by_cases ei:i=lg
 ·subst ei;rw[es j (by omega)]at he;rw[esl]at he;exact FQ (mB (by omega) he.symm) hij (hT j (by omega))
 rw[es i ei]at h0 he;by_cases ejl:j=lg
 ·subst ejl;rw[esl]at he;exact xO (mB (by omega) he) hij (hT j (by omega))
 rw[es j ejl]at he;by_cases ejn:j=n
 ·subst ejn;rw[ns]at he;omega
 exact h.slot i j hij (by omega) h0 he
theorem yA{T:List Int}{Ix:Int}{N:Nat}(hT:∀i,i<N→(i:Int)≤T.getD i 0):∀n,n≤N→SInv T Ix N n (gJ T Ix N n)
 |0,_=>sinv0 T Ix N
 |n+1,h=>B7 hT (yA hT n (by omega)) (by omega)
theorem Cs{T:List Int}{N:Nat}(hT:∀i,i<N→(i:Int)≤T.getD i 0)(hN:N≤64):Et (gJ T 7 N N) T N:=by
 have h:=yA (Ix:=7) hT N (aS _);obtain⟨pl,hpl⟩:=Zgn (gJ T 7 N N);rw[hpl]at h⊢;have e:∀n:Nat,pl.r n=pl.reg.getD n 0∧pl.s n=pl.slot.getD n 0:=fun n=>by simp only[Pl.r,Pl.s,aQ,and_self]
 have hin:∀n:Nat,pl.inR n=decide (0≤pl.reg.getD n 0):=fun n=>by unfold Pl.inR;rw[(e n).1]
 refine⟨fun n hn=>?_,fun i j hij hj h1 h2 he=>?_,fun i j hij hj h1 h2 he=>?_⟩
 ·unfold Pl.has;rw[hin,(e n).1,(e n).2];rcases h.had n hn with⟨q1,q2, -⟩|⟨q1,q2,q3⟩
  ·exact Or.inl ⟨aB q1,q2⟩
  exact Or.inr ⟨aD (by omega),q2,by omega⟩
 ·rw[hin]at h1;rw[(e i).1,(e j).1]at he;exact h.reg i j hij hj (by simpa using h1) he
 rw[hin]at h1;rw[(e i).2,(e j).2]at he;refine h.slot i j hij hj ?_ he;rcases h.had i (by omega)with⟨q1, -⟩|⟨-,q, -⟩
 ·rw[aB q1]at h1;cases h1
 exact q
end Go.Ink
