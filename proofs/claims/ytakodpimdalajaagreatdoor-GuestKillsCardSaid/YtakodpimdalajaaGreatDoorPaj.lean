/- Lemmas. -/
import Derived.Test.YtakodpimdalajaaGreatDoorPaa
import Derived.Test.YtakodpimdalajaaGreatDoorPab
import Derived.Test.YtakodpimdalajaaGreatDoorPai
set_option linter.unusedSimpArgs false
set_option linter.unusedVariables false
set_option maxRecDepth 100000
set_option maxHeartbeats 4000000
namespace Go.Ink
open Go.RowKit
def jz(W:List Int)(from_:Nat)(l:List Int):Nat→List Int
 |0=>W
 |k+1=>(jz W from_ l k).set (from_+k) (l.getD k 0)
def JV(s:St):List Int:=(jz (jz (((((List.replicate 256 (0:Int)).set 0 s.pc).set 1 s.flags).set 2 (s.d.length:Int)).set 3 (s.r.length:Int)) 4 s.d 16) 20 s.r 16).set 36 0
theorem jN(W:List Int)(f:Nat)(l:List Int):∀k,(jz W f l k).length=W.length
 |0=>rfl
 |k+1=>by show((jz W f l k).set _ _).length=_;rw[aG,jN W f l k]
theorem vd(W:List Int)(f:Nat)(l:List Int):∀k,f+k≤W.length→∀j,j<k→(jz W f l k).getD (f+j) 0=l.getD j 0
 |0,_,j,hj=>absurd hj Wq1
 |k+1,hk,j,hj=>by
  show((jz W f l k).set (f+k) (l.getD k 0)).getD (f+j) 0=_;by_cases e:j=k
  ·subst e;exact cR (by rw[jN];omega)
  rw[cA Wq1];exact vd W f l k Wq1 j Wq1
theorem gW(W:List Int)(f:Nat)(l:List Int):∀k,∀j,(j<f∨f+k≤j)→(jz W f l k).getD j 0=W.getD j 0
 |0,_,_=>rfl
 |k+1,j,hj=>by
  show((jz W f l k).set (f+k) (l.getD k 0)).getD j 0=_;rw[cA Wq1];exact gW W f l k j Wq1
theorem zx(s:St):(JV s).length=256:=by unfold JV;simp[jN]
theorem GG(s:St):(JV s).getD 0 0=s.pc∧(JV s).getD 1 0=s.flags∧(JV s).getD 2 0=s.d.length∧(JV s).getD 3 0=s.r.length:=by
 unfold JV;refine⟨?_,?_,?_,?_⟩
 ·rw[cA Wq5,gW _ _ _ _ _ Wq1,gW _ _ _ _ _ Wq1,cA Wq5,cA Wq5,cA Wq5];exact cR cJ
 ·rw[cA Wq5,gW _ _ _ _ _ Wq1,gW _ _ _ _ _ Wq1,cA Wq5,cA Wq5];exact cR cJ
 ·rw[cA Wq5,gW _ _ _ _ _ Wq1,gW _ _ _ _ _ Wq1,cA Wq5];exact cR cJ
 rw[cA Wq5,gW _ _ _ _ _ Wq1,gW _ _ _ _ _ Wq1];exact cR cJ
theorem IX(s:St)(j:Nat)(hj:j<16):(JV s).getD (4+j) 0=s.d.getD j 0:=by
 unfold JV;rw[cA Wq1,gW _ _ _ _ _ Wq1];exact vd _ _ _ _ cJ j hj
theorem IW(s:St)(j:Nat)(hj:j<16):(JV s).getD (20+j) 0=s.r.getD j 0:=by
 unfold JV;rw[cA Wq1];exact vd _ _ _ _ (by simp[jN]) j hj
def Pg.Kl(p:Pg)(V:List Int)(f0:Int):Int:=bif decide (0≤p.flags)then V.getD p.flags.toNat 0%16 else f0
def Pg.Kb(p:Pg)(V:List Int)(f:Int):Int:=bif decide (0≤p.target)then V.getD p.target.toNat 0 else bif(cY p.branch f).1 then p.taken else p.next
section
variable {C l:List HI} {k:Nat} {R W:List Int} {M:HM} {pl:Pl} {T V:List Int} {N:Nat}
theorem HGo.pos{pre:List HI}(h:HGo C k l R W M)(hl:l≠[])(hC:C=pre++l):k=pre.length:=by
 have h1:=congrArg List.length h.at_;have h2:=congrArg List.length hC;rw[bn]at h1;rw[ae]at h2;have h3:0<l.length:=List.length_pos_iff.2 hl;omega
theorem AL.mono{R' W':List Int}(hp:FO pl T N)(h:AL pl T V N R W)(hs:∀j,j<7→R'.getD j 0=R.getD j 0)(hw:∀j,64≤j→W'.getD j 0=W.getD j 0):AL pl T V N R' W':=fun a ha ht=>by
 have h1:=h a ha ht;have h2:=hp.has a ha;refine⟨fun hi=>?_,fun hi=>?_⟩
 ·have q1:0≤pl.r a:=by unfold Pl.inR at hi;simpa using hi
  have q2:pl.r a<7:=by rcases h2 with⟨-,q⟩|⟨q, -⟩;exact q;rw[hi]at q;cases q
  rw[hs _ Wq1];exact h1.1 hi
 rw[hw _ Wq1];exact h1.2 hi
theorem HGo.take7{n:Int}(hp:FO pl T N)(hV:wds V)(h:HGo C k (jj pl n 7++l) R W M)(h15:R.getD 15 0=0)(hh:AL pl T V N R W)(hn:0≤n∧n<N∧(N:Int)≤T.getD n.toNat 0):
  ∃k' R' r,HGo C k' l R' W M∧dP pl n 7=(r:Nat)∧r<9∧R'.getD r 0=V.getD n.toNat 0∧jZ [7] R R':=by
 obtain⟨n0,n1,n2⟩:=hn;have en:((n.toNat:Nat):Int)=n:=by omega
 have h1:=hp.has n.toNat Wq1;have h2:=hh n.toNat Wq1 n2;rw[en]at h1 h2;obtain⟨r,hr,hr2⟩:=la h1 (into:=7) Wq1;have hr:dP pl n 7=(r:Int):=hr;obtain⟨k1,R1,g1,g2,g3⟩:=HGo.get (into:=7) h h1 Wq1 hr h15 h2;exact⟨k1,R1,r,g1,hr,by rcases hr2 with⟨q, -⟩|⟨q, -⟩<;>omega,g2,g3⟩
theorem IB{v:Nat}(hv:v<4294967296):bits .and .u64 15 (v:Int)=(v:Int)%16:=by
 have h1:=FB (a:=15) (b:=v) Wq5 Wq1;rw[show((15:Nat):Int)=15 from rfl]at h1;rw[h1,Nat.and_comm,show(15:Nat)=2^4 - 1 from rfl,Nat.and_two_pow_sub_one_eq_mod];omega
theorem H6:∀f:Nat,f<16→(bits .and .u64 (f:Int) 1=bits .and .u32 (f:Int) 1∧bits .and .u64 (f:Int) 2=bits .and .u32 (f:Int) 2∧bits .and .u64 (f:Int) 4=bits .and .u32 (f:Int) 4∧bits .and .u64 (f:Int) 8=bits .and .u32 (f:Int) 8):=by decide+kernel
theorem Eh{op f:Int}(hop:33≤op∧op≤37)(hf:0≤f∧f≤15):(cY op f).1=(bif gP op then bits .and .u64 f (fw op) !=0 else bits .and .u64 f (fw op)==0):=by
 obtain⟨n,rfl⟩:∃n:Nat,f=n:=aq hf.1;obtain⟨h1,h2,h3,h4⟩:=H6 n Wq1;have h:op=33∨op=34∨op=35∨op=36∨op=37:=by omega
 rcases h with rfl|rfl|rfl|rfl|rfl
 ·show(bits .and .u32 (n:Int) 1 !=0)=(bits .and .u64 (n:Int) 1 !=0);rw[h1]
 ·show(bits .and .u32 (n:Int) 1==0)=(bits .and .u64 (n:Int) 1==0);rw[h1]
 ·show(bits .and .u32 (n:Int) 4 !=0)=(bits .and .u64 (n:Int) 4 !=0);rw[h3]
 ·show(bits .and .u32 (n:Int) 2 !=0)=(bits .and .u64 (n:Int) 2 !=0);rw[h2]
 show(bits .and .u32 (n:Int) 8 !=0)=(bits .and .u64 (n:Int) 8 !=0);rw[h4]
theorem HGo.flagsEnd{p:Pg}{f0:Int}(hp:FO pl T N)(hV:wds V)(h:HGo C k (gu p pl++l) R W M)(h15:R.getD 15 0=0)(hh:AL pl T V N R W)(hf:0≤p.flags→p.flags<N∧(N:Int)≤T.getD p.flags.toNat 0)(h1:W.getD 1 0=f0):
  ∃k' R' W',HGo C k' l R' W' M∧jZ [7,11] R R'∧W'.getD 1 0=p.Kl V f0∧∀i,i≠1→W'.getD i 0=W.getD i 0:=by
 unfold gu at h;unfold Pg.Kl;by_cases hd:0≤p.flags
 ·rw[ay hd]at h⊢;have h:HGo C k (⟨1,11,0,0,15⟩::(jj pl p.flags 7++(⟨5,11,11,dP pl p.flags 7,0⟩::⟨15,0,15,11,1⟩::l))) R W M:=by
   have e:(⟨1,11,0,0,15⟩::(jj pl p.flags 7++[⟨5,11,11,dP pl p.flags 7,0⟩,⟨15,0,15,11,1⟩]))++l=(⟨1,11,0,0,15⟩::(jj pl p.flags 7++(⟨5,11,11,dP pl p.flags 7,0⟩::⟨15,0,15,11,1⟩::l)):List HI):=by simp
   rw[ac,e]at h;exact h
  have g0:=HGo.li (rd:=11) h;obtain⟨k1,R1,r,g1,g2,g3,g4,g5⟩:=HGo.take7 hp hV g0 (by rw[cA Wq5,h15]) (hh.mono hp (fun j hj=>cA Wq1) (fun _ _=>rfl)) ⟨hd,(hf hd).1,(hf hd).2⟩;obtain⟨v,v1,v2⟩:=lE hV p.flags.toNat;rw[g2]at g1;have hl:=h.rl;have a1:=HGo.op (rd:=11) (ra:=11) (rb:=r) (v:=(v:Int)%16) g1 Wq5 Wq5 (by rw[g5 11 Wq5,cR Wq1,g4,v1];exact IB v2);have a2:=HGo.st (ra:=15) (rb:=11) (p:=1) (v:=(v:Int)%16) a1 (by rw[cA Wq5,g5 15 Wq5,cA Wq5,h15];rfl) Wq5 (by rw[cR (by rw[g1.rl];decide),aE];omega);refine⟨_,_,_,a2,?_,?_,fun i hi=>cA (fun e=>hi e.symm)⟩
  ·intro j hj;simp only[aK,aY,or_false,not_or]at hj;rw[cA Wq1,g5 j (by simp;omega),cA Wq1]
  rw[cR (by rw[h.wl];decide),ac,v1]
 rw[az hd]at h⊢;exact⟨k,R,W,h,jZ.refl _ _,h1,fun _ _=>rfl⟩
theorem HGo.KI{p:Pg}{pos:Nat}{f:Int}(h:HGo C k (ge p pos++l) R W M)(hk:p.branch≠0→k=pos)(hps:pos≤100000)(h15:R.getD 15 0=0)(hf:0≤f∧f≤15)(h1:W.getD 1 0=f)(h9:R.getD 9 0=p.next)(hb:p.branch=0∨(33≤p.branch∧p.branch≤37)):
  ∃k' R',HGo C k' l R' W M∧R'.getD 9 0=(bif(cY p.branch f).1 then p.taken else p.next)∧jZ [9,11,12] R R':=by
 unfold ge at h;rcases hb with hb|hb
 ·rw[hb]at h⊢;exact⟨k,R,h,h9,jZ.refl _ _⟩
 rw[show(p.branch !=0)=true by simp;omega,ac]at h;have hk:=hk Wq1;have hl:=h.rl;have a1:=HGo.ld (rd:=11) (ra:=15) (p:=1) h (by rw[h15];rfl) Wq5;have a2:=HGo.li (rd:=12) a1;rw[h1]at a2;have hbit:=Eh hb hf;obtain⟨q,hq⟩:=Zgn (bits .and .u64 f (fw p.branch));rw[hq]at hbit;have a3:=HGo.op (rd:=11) (ra:=11) (rb:=12) (v:=q) a2 Wq5 Wq5 (by rw[cA Wq5,cR Wq1,cR (by rw[aG];omega)];exact hq);have e11:(((R.set 11 f).set 12 (fw p.branch)).set 11 q).getD 11 0=q:=cR (by simp only[aG];omega);have e9:(((R.set 11 f).set 12 (fw p.branch)).set 11 q).getD 9 0=p.next:=by rw[cA Wq5,cA Wq5,cA Wq5,h9]
 have ew:IntKind.u32.wrap (((pos+3:Nat):Int)+2)=((pos+5:Nat):Int):=by rw[aE];omega
 rw[ew]at a3;have hdrop:C.drop (pos+5)=l:=by
  have:=h.at_;rw[hk]at this;have h5:=congrArg (List.drop 5) this;rw[List.drop_drop]at h5;exact h5
 have same:jZ [9,11,12] R (((R.set 11 f).set 12 (fw p.branch)).set 11 q):=by
  intro j hj;simp only[aK,aY,or_false,not_or]at hj;rw[cA Wq1,cA Wq1,cA Wq1]
 have goOn:∀{k2:Nat},HGo C k2 (⟨1,9,0,0,p.taken⟩::l) (((R.set 11 f).set 12 (fw p.branch)).set 11 q) W M→(cY p.branch f).1=true→∃k' R',HGo C k' l R' W M∧R'.getD 9 0=(bif(cY p.branch f).1 then p.taken else p.next)∧jZ [9,11,12] R R':=fun g he=>by
  refine⟨_,_,HGo.li (rd:=9) g,?_,same.trans (jZ.set _ 9 _ (e:=[9]) cJ) (by intro z hz;simp at hz⊢;omega)⟩;rw[he];exact cR (by simp only[aG];omega)
 have stay:HGo C (pos+5) l (((R.set 11 f).set 12 (fw p.branch)).set 11 q) W M→(cY p.branch f).1=false→∃k' R',HGo C k' l R' W M∧R'.getD 9 0=(bif(cY p.branch f).1 then p.taken else p.next)∧jZ [9,11,12] R R':=fun g he=>
  ⟨_,_,g,by rw[he];exact e9,same⟩
 cases hs:gP p.branch with
 |true=>
  rw[hs]at a3 hbit;have a4:=HGo.beqz (ra:=11) a3 hdrop;rw[e11]at a4;rcases a4 with⟨c,g⟩|⟨c,g⟩
  ·exact goOn g (by rw[hbit];show(q !=0)=true;simpa using c)
  exact stay g (by rw[hbit];show(q !=0)=false;simpa using c)
 |false=>
  rw[hs]at a3 hbit;have a4:=HGo.bnez (ra:=11) a3 hdrop;rw[e11]at a4;rcases a4 with⟨c,g⟩|⟨c,g⟩
  ·exact goOn g (by rw[hbit];show(q==0)=true;simpa using c)
  exact stay g (by rw[hbit];show(q==0)=false;simpa using c)
structure PgOk(p:Pg)(T:List Int):Prop where
 code:OkC p.Jn p.Jo p.code
 uses:∀(n:Nat) (x:II),p.code[n]? =some x→x.op=3∨x.op=4→(n:Int)≤T.getD x.a.toNat 0∧(n:Int)≤T.getD x.b.toNat 0
 Jw:∀n,n∈p.Jw→0≤n∧n<p.code.length∧(p.code.length:Int)≤T.getD n.toNat 0
 Jx:∀n,n∈p.Jx→0≤n∧n<p.code.length∧(p.code.length:Int)≤T.getD n.toNat 0
 flags:0≤p.flags→p.flags<p.code.length∧(p.code.length:Int)≤T.getD p.flags.toNat 0
 target:0≤p.target→p.target<p.code.length∧(p.code.length:Int)≤T.getD p.target.toNat 0
 branch:p.branch=0∨(33≤p.branch∧p.branch≤37)
 n64:p.code.length≤64
 Jn:0≤p.Jn∧p.Jn≤16
 Jo:0≤p.Jo∧p.Jo≤16
 JK:0≤p.JK∧p.JK≤16
 JN:0≤p.JN∧p.JN≤16
 next:0≤p.next∧p.next≤4294967295
 taken:0≤p.taken∧p.taken≤4294967295
 count:1≤p.count∧p.count≤8
theorem HGo.fin{p:Pg}{pos:Nat}{f0:Int}{l:List HI}(ok:PgOk p T)(hN:N=p.code.length)(hp:FO pl T N)(hV:wds V)(h:HGo C k (qy p pl pos++l) R W M)(hk:k=pos)(hl:l≠[])(hps:pos≤10000)(h15:R.getD 15 0=0)(hh:AL pl T V N R W)(h1:W.getD 1 0=f0)(hf0:0≤f0∧f0≤15):
  M.words.getD 0 0=p.Kb V (p.Kl V f0)∧M.words.getD 1 0=p.Kl V f0∧M.words.getD 36 0=p.count∧∀i,i≠0→i≠1→i≠36→M.words.getD i 0=W.getD i 0:=by
 subst hN;have hfl:=ok.flags;have htg:=ok.target;have hbr:=ok.branch;have hnx:=ok.next
 have htk:=ok.taken;have hct:=ok.count;have hC:C=C.take k++(qy p pl pos++l):=by rw[←h.at_];exact(List.take_append_drop k C).symm
 obtain⟨rest,hrest⟩:∃rest,rest=iR p pl++(⟨15,0,15,9,0⟩::⟨1,11,0,0,IntKind.u32.wrap p.count⟩::⟨15,0,15,11,36⟩::⟨19,0,0,0,1⟩::l):=⟨_,rfl⟩;have e1:qy p pl pos++l=gu p pl++(⟨1,9,0,0,p.next⟩::(ge p (pos+(gu p pl).length+1)++rest)):=by
  rw[hrest];unfold qy;simp
 have hkl:C.length=k+(qy p pl pos++l).length:=by
  have h2:=h.at_;have h3:=congrArg List.length h2;rw[bn]at h3;have h4:0<(qy p pl pos++l).length:=by rw[ae];have:=List.length_pos_iff.2 hl;omega
  omega
 rw[e1]at h hkl;obtain⟨k1,R1,W1,g1,g2,g3,g4⟩:=HGo.flagsEnd hp hV h h15 hh hfl h1;have a1:=HGo.li (rd:=9) g1;have hf:0≤p.Kl V f0∧p.Kl V f0≤15:=by
  unfold Pg.Kl;cases decide (0≤p.flags)with
  |true=>show 0≤V.getD p.flags.toNat 0%16∧V.getD p.flags.toNat 0%16≤15;omega
  |false=>exact hf0
 have hrl:=h.rl;have hfle:(gu p pl).length≤5:=by
  unfold gu;cases decide (0≤p.flags)with
  |false=>exact au _
  |true=>
   show(_::(jj pl p.flags 7++[_,_])).length≤5;have:(jj pl p.flags 7).length≤1:=by unfold jj;cases pl.inR p.flags<;>simp
   simp;omega
 obtain⟨k2,R2,b1,b2,b3⟩:=HGo.KI (pos:=pos+(gu p pl).length+1) a1 (fun hb=>by
   have h5:k1+1=_:=rfl;have h6:=congrArg List.length a1.at_;rw[bn]at h6;have h7:0<(ge p (pos+(gu p pl).length+1)++rest).length:=by
    rw[ae];unfold ge;rw[show(p.branch !=0)=true by simpa using hb];show 0<5+_;omega
   simp only[ae,aj]at hkl h6 h7;omega) Wq1 (by rw[cA Wq5,g2 15 Wq5,h15]) hf g3 (cR (by rw[g1.rl];decide)) hbr
 have h15':R2.getD 15 0=0:=by rw[b3 15 Wq5,cA Wq5,g2 15 Wq5,h15]
 have hold2:AL pl T V p.code.length R2 W1:=hh.mono hp (fun j hj=>by rw[b3 j (by simp;omega),cA Wq1,g2 j (by simp;omega)]) (fun j hj=>g4 j Wq1);have tgt:∃k3 R3,HGo C k3 (⟨15,0,15,9,0⟩::⟨1,11,0,0,IntKind.u32.wrap p.count⟩::⟨15,0,15,11,36⟩::⟨19,0,0,0,1⟩::l) R3 W1 M∧R3.getD 9 0=p.Kb V (p.Kl V f0)∧R3.getD 15 0=0:=by
  rw[hrest]at b1;unfold iR at b1;unfold Pg.Kb;by_cases hd:0≤p.target
  ·rw[ay hd]at b1⊢;have b1:HGo C k2 (jj pl p.target 7++(⟨2,9,dP pl p.target 7,0,0⟩::(⟨15,0,15,9,0⟩::⟨1,11,0,0,IntKind.u32.wrap p.count⟩::⟨15,0,15,11,36⟩::⟨19,0,0,0,1⟩::l))) R2 W1 M:=by
    rw[ac,ap]at b1;exact b1
   obtain⟨k3,R3,r,c1,c2,c3,c4,c5⟩:=HGo.take7 hp hV b1 h15' hold2 ⟨hd,(htg hd).1,(htg hd).2⟩;rw[c2]at c1;have c6:=HGo.mov (rd:=9) (ra:=r) c1;rw[c4]at c6;exact⟨_,_,c6,cR (by rw[c1.rl];decide),by rw[cA Wq5,c5 15 Wq5,h15']⟩
  rw[az hd]at b1⊢;exact⟨k2,R2,b1,b2,h15'⟩
 obtain⟨k3,R3,d1,d2,d3⟩:=tgt;have hpc:0≤p.Kb V (p.Kl V f0)∧p.Kb V (p.Kl V f0)≤4294967295:=by
  unfold Pg.Kb;cases decide (0≤p.target)with
  |true=>exact iB hV _
  |false=>cases(cY p.branch (p.Kl V f0)).1 with
   |true=>exact htk
   |false=>exact hnx
 have hl3:=d1.rl;have hw3:=d1.wl;have x1:=HGo.st (ra:=15) (rb:=9) (p:=0) (v:=p.Kb V (p.Kl V f0)) d1 (by rw[d3];rfl) Wq5 (by rw[d2,aE];omega);have x2:=HGo.li (rd:=11) x1;have x3:=HGo.st (ra:=15) (rb:=11) (p:=36) (v:=p.count) x2 (by rw[cA Wq5,d3];rfl) Wq5 (by rw[cR Wq1,aE,aE];omega);have x4:=HGo.exit x3;rw[x4.2];refine⟨?_,?_,?_,fun i h0 h1 h36=>?_⟩
 ·show((W1.set 0 _).set 36 _).getD 0 0=_;rw[cA Wq5,cR Wq1]
 ·show((W1.set 0 _).set 36 _).getD 1 0=_;rw[cA Wq5,cA Wq5,g3]
 ·show((W1.set 0 _).set 36 _).getD 36 0=_;exact cR (by rw[aG];omega)
 show((W1.set 0 _).set 36 _).getD i 0=_;rw[cA (fun e=>h36 e.symm),cA (fun e=>h0 e.symm),g4 i h1]
end
section
variable {pl:Pl}
theorem rX(n into:Int):(jj pl n into).length≤1:=by unfold jj;cases pl.inR n<;>simp
theorem Hj(n r:Int):(iT pl n r).length≤1:=by unfold iT;cases pl.inR n<;>simp
theorem FD(op rd a b:Int):(ul op rd a b).length≤3:=by unfold ul;cases uY op<;>simp[I0]
theorem H5(op a b:Int):(lb op a b).length≤21:=by
 have h:=FD op 9 a b;unfold lb fW;cases op==16 with
 |true=>simp[jT,gv,gN,sD];omega
 |false=>
  cases op==17||op==25 with
  |true=>simp[jS,gv,gN,sD];omega
  |false=>simp[gv,gN,sD];omega
theorem oneL_le(nd nr:Int)(n:Int)(x:II):(pi nd nr pl n x).length≤25:=by
 have h0:=Hj (pl:=pl) n (dP pl n 9);have h1:=rX (pl:=pl) x.a 7;have h2:=rX (pl:=pl) x.b 8;have h3:=FD x.imm (dP pl n 9) (dP pl x.a 7) (dP pl x.b 8);have h4:=H5 x.imm (dP pl x.a 7) (dP pl x.b 8);unfold pi;rw[ae];cases x.op==0 with
 |true=>simp;omega
 |false=>cases x.op==1 with
  |true=>simp;omega
  |false=>cases x.op==2 with
   |true=>simp;omega
   |false=>cases x.op==3 with
    |true=>simp only[ac,aa,ae];omega
    |false=>cases x.op==4 with
     |true=>simp only[ac,aa,ae,aj,ao];omega
     |false=>simp;omega
theorem zG(nd nr:Int):∀(c:List II) (n:Nat),(jy nd nr pl c n).length≤25*c.length
 |[],_=>au _
 |x::c,n=>by
  have h1:=oneL_le (pl:=pl) nd nr n x;have h2:=zG nd nr c (n+1);show(pi nd nr pl n x++jy nd nr pl c (n+1)).length≤25*(c.length+1);rw[ae];omega
theorem yi(base f:Int):∀(c:List Int) (n:Nat),(tH pl base f c n).length≤2*c.length
 |[],_=>au _
 |x::c,n=>by
  have h1:=rX (pl:=pl) x 7;have h2:=yi base f c (n+1);show(jj pl x 7++(_::tH pl base f c (n+1))).length≤2*(c.length+1);rw[ae,aj];omega
theorem endL_le(p:Pg)(pos:Nat):(qy p pl pos).length≤20:=by
 have h1:(gu p pl).length≤4:=by
  unfold gu;have:=rX (pl:=pl) p.flags 7;cases decide (0≤p.flags)with
  |true=>simp;omega
  |false=>simp
 have h2:∀q,(ge p q).length≤5:=fun q=>by unfold ge;cases p.branch !=0<;>simp
 have h3:(iR p pl).length≤2:=by
  unfold iR;have:=rX (pl:=pl) p.target 7;cases decide (0≤p.target)with
  |true=>simp;omega
  |false=>simp
 have h4:=h2 (pos+(gu p pl).length+1);unfold qy;simp;omega
theorem work_le{p:Pg}(hn:p.code.length≤64)(hD:p.Jw.length≤16)(hR:p.Jx.length≤16):(iz p pl).length≤2000:=by
 have h1:=zG (pl:=pl) p.Jn p.Jo p.code 0;have h2:=yi (pl:=pl) 14 4 p.Jw 0;have h3:=yi (pl:=pl) 13 20 p.Jx 0;unfold iz gS;simp only[ae,aj,ao];omega
theorem xw(p:Pg)(e:Int):(fh p pl e).length=(fh p pl 0).length:=by
 unfold fh qc nh;cases p.JW<;>cases p.J4<;>simp
end
structure Left(p:Pg)(V:List Int)(s:St)(W:List Int):Prop where
 Jn:p.Jn≤s.d.length
 JK:(s.d.length:Int)+p.JK≤16
 Jo:p.Jo≤s.r.length
 JN:(s.r.length:Int)+p.JN≤16
 pc:W.getD 0 0=p.Kb V (p.Kl V s.flags)
 flags:W.getD 1 0=p.Kl V s.flags
 Kv:W.getD 2 0=((s.d.length - p.Jn.toNat+p.Jw.length:Nat):Int)
 lenR:W.getD 3 0=((s.r.length - p.Jo.toNat+p.Jx.length:Nat):Int)
 fitD:s.d.length - p.Jn.toNat+p.Jw.length≤16
 fitR:s.r.length - p.Jo.toNat+p.Jx.length≤16
 lowD:∀i,i<s.d.length - p.Jn.toNat→W.getD (4+i) 0=s.d.getD i 0
 newD:∀i,i<p.Jw.length→W.getD (4+(s.d.length - p.Jn.toNat)+i) 0=V.getD (p.Jw.getD i 0).toNat 0
 lowR:∀i,i<s.r.length - p.Jo.toNat→W.getD (20+i) 0=s.r.getD i 0
 newR:∀i,i<p.Jx.length→W.getD (20+(s.r.length - p.Jo.toNat)+i) 0=V.getD (p.Jx.getD i 0).toNat 0
 count:W.getD 36 0=p.count
theorem wB{Jp high:Int}{out:Nat}:iO Jp high out≤16 - high∧iO Jp high out≤16+Jp - out:=by
 unfold iO;split<;>omega
theorem wC{Jp high:Int}{out:Nat}(h0:0≤Jp∧Jp≤16)(h1:0≤high∧high≤16):iO Jp high out≤16∧(out≤16→0≤iO Jp high out):=by
 unfold iO;split<;>omega
theorem Ib{p:Pg}{T:List Int}{pl:Pl}{s:St}{M:HM}(ok:PgOk p T)(hp:FO pl T p.code.length)(hs:s.right=true)(hw:s.wf)(h:HGo (gm p pl) 0 (gm p pl) (List.replicate 16 0) (JV s) M):
  Left p (JR s.d s.r p.code) s M.words:=by
 obtain⟨hd16,hr16, -⟩:=St.fits hs;have hf15:0≤s.flags∧s.flags≤15:=⟨hw.flags.1,by have:=hs;unfold St.right at this;simp at this;omega⟩;have hD:wds s.d:=fun x hx=>hw.d x hx
 have hR:wds s.r:=fun x hx=>hw.r x hx
 have hV:wds (JR s.d s.r p.code):=F5 p.code hD hR ok.code;obtain⟨w0,w1,w2,w3⟩:=GG s;obtain⟨e,he⟩:=Zgn ((fh p pl 0).length);have hnd:=ok.Jn;have hnr:=ok.Jo;have hhd:=ok.JK;have hhr:=ok.JN;cases hrd:p.JW with
 |false=>
  have hb:∀e,fh p pl e=[⟨1,15,0,0,0⟩]:=fun e=>by unfold fh;rw[hrd];rfl
  unfold gm at h;rw[hb]at h;have:=(HGo.exit (HGo.li (rd:=15) h)).1;cases this
 |true=>
 have hmD:p.Jn≤p.Kf:=by unfold Pg.JW at hrd;simp at hrd;exact hrd
 have hmD2:=wB (Jp:=p.Jn) (high:=p.JK) (out:=p.Jw.length);have hmD3:=wC (Jp:=p.Jn) (high:=p.JK) (out:=p.Jw.length) hnd hhd;have hmD0:p.Kf=iO p.Jn p.JK p.Jw.length:=rfl;cases hrr:p.J4 with
 |false=>
  have hb:∀e,fh p pl e=⟨1,15,0,0,0⟩::nh e 14 2 p.Jn p.Kf:=fun e=>by unfold fh;rw[hrd,hrr];rfl
  have h9:IntKind.u32.wrap ((fh p pl 0).length:Nat)=((9:Nat):Int):=by rw[hb];rfl
  unfold gm at h;rw[h9,hb]at h;have g:=HGo.li (rd:=15) h;obtain⟨-, -,k',R',g1, -⟩:=HGo.room (base:=14) (word:=2) (n:=s.d.length) (e:=9) (l:=[⟨19,0,0,0,2⟩]) (by exact g) Wq1 Wq1 (cR cJ) (by rw[w2]) hd16 hnd Wq1 rfl;have:=(HGo.exit g1).1;cases this
 |true=>
 have hmR:p.Jo≤p.Ku:=by unfold Pg.J4 at hrr;simp at hrr;exact hrr
 have hmR2:=wB (Jp:=p.Jo) (high:=p.JN) (out:=p.Jx.length);have hmR3:=wC (Jp:=p.Jo) (high:=p.JN) (out:=p.Jx.length) hnr hhr;have hmR0:p.Ku=iO p.Jo p.JN p.Jx.length:=rfl;have hoD:p.Jw.length≤16:=by omega
 have hoR:p.Jx.length≤16:=by omega
 have hb:∀e,fh p pl e=qc p e++(iz p pl++qy p pl (17+(iz p pl).length)):=fun e=>by unfold fh;rw[hrd,hrr];rfl
 have hwl:=work_le (pl:=pl) ok.n64 hoD hoR;have hel:=endL_le (pl:=pl) p (17+(iz p pl).length);have hh17:∀e,(qc p e).length=17:=fun e=>rfl
 have hbl:(fh p pl 0).length=17+((iz p pl).length+(qy p pl (17+(iz p pl).length)).length):=by rw[hb,ae,ae,hh17]
 have hwr:IntKind.u32.wrap ((fh p pl 0).length:Nat)=(e:Int):=by rw[he,aE];omega
 obtain⟨C,hC⟩:=Zgn (gm p pl);rw[hC]at h;have hC2:C=fh p pl (e:Int)++[⟨19,0,0,0,2⟩]:=by rw[←hC];unfold gm;rw[hwr]
 have hCe:C.drop e=[⟨19,0,0,0,2⟩]:=by
  rw[hC2,List.drop_append_of_le_length (by rw[xw,he];omega),List.drop_eq_nil_of_le (by rw[xw,he];omega)];rfl
 have hC3:C=⟨1,15,0,0,0⟩::(nh e 14 2 p.Jn p.Kf++(nh e 13 3 p.Jo p.Ku++(iz p pl++(qy p pl (17+(iz p pl).length)++[⟨19,0,0,0,2⟩])))):=by
  rw[hC2,hb];unfold qc;simp
 have h1:HGo C 0 (⟨1,15,0,0,0⟩::(nh e 14 2 p.Jn p.Kf++(nh e 13 3 p.Jo p.Ku++(iz p pl++(qy p pl (17+(iz p pl).length)++[⟨19,0,0,0,2⟩]))))) (List.replicate 16 0) (JV s) M:=⟨by rw[List.drop_zero];exact hC3,h.rl,h.wl,h.ends⟩;have g0:=HGo.li (rd:=15) h1;obtain⟨r1,r2,k1,R1,g1,b1,s1⟩:=HGo.room (base:=14) (word:=2) (n:=s.d.length) g0 Wq1 Wq1 (cR cJ) (by rw[w2]) hd16 hnd Wq1 hCe;obtain⟨r3,r4,k2,R2,g2,b2,s2⟩:=HGo.room (base:=13) (word:=3) (n:=s.r.length) g1 Wq1 Wq1 (by rw[s1 15 Wq5];exact cR cJ) (by rw[w3]) hr16 hnr Wq1 hCe;have hbase:IG s.d s.r p.Jn p.Jo R2 (JV s):=⟨by rw[s2 15 Wq5,s1 15 Wq5];exact cR cJ,by rw[s2 14 Wq5,b1],b2,fun j hj=>IX s j Wq1,fun j hj=>IW s j Wq1,hd16,hr16,⟨hnd.1,r1⟩,⟨hnr.1,r3⟩⟩;have g2:HGo C k2 (jy p.Jn p.Jo pl p.code 0++(gS pl 14 4 2 p.Jw++(gS pl 13 20 3 p.Jx++(qy p pl (17+(iz p pl).length)++[⟨19,0,0,0,2⟩])))) R2 (JV s) M:=by
  have e:iz p pl++(qy p pl (17+(iz p pl).length)++[⟨19,0,0,0,2⟩])=jy p.Jn p.Jo pl p.code 0++(gS pl 14 4 2 p.Jw++(gS pl 13 20 3 p.Jx++(qy p pl (17+(iz p pl).length)++[⟨19,0,0,0,2⟩]))):=by
   rw[show iz p pl=jy p.Jn p.Jo pl p.code 0++(gS pl 14 4 2 p.Jw++gS pl 13 20 3 p.Jx)from rfl];simp only[ap]
  rw[e]at g2;exact g2
 obtain⟨V,hVe⟩:=Zgn (JR s.d s.r p.code);have hVal:∀i x,p.code[i]? =some x→x.ok p.Jn p.Jo (0+i)∧V.getD (0+i) 0=kj s.d s.r V x∧(x.op=3∨x.op=4→((0+i:Nat):Int)≤T.getD x.a.toNat 0∧((0+i:Nat):Int)≤T.getD x.b.toNat 0):=fun i x hx=>by
  rw[bl];refine⟨ok.code i x hx,?_,ok.uses i x hx⟩;obtain⟨hlt,hxe⟩:=ar.1 hx;have hsp:p.code=p.code.take i++x::p.code.drop (i+1):=by rw[←hxe,←List.drop_eq_getElem_cons hlt,List.take_append_drop]
  have hok:=ok.code;rw[←hVe];rw[hsp]at hok⊢;have:=vals_at (D:=s.d) (Rr:=s.r) hok;rw[aC,Nat.min_eq_left Wq1]at this;exact this
 rw[hVe]at hV;obtain⟨k3,R3,W3,g3,b3,hold,ws3⟩:=HGo.all (N:=p.code.length) (V:=V) hp hD hR hV p.code 0 k2 R2 (JV s) g2 Wq1 hVal hbase (fun a ha=>absurd ha Wq1);have hBD:R3.getD 14 0=((s.d.length - p.Jn.toNat:Nat):Int):=by rw[b3.bd];omega
 obtain⟨k4,R4,W4,g4,s4,o4,n4,l4,hold4⟩:=HGo.stack (B:=s.d.length - p.Jn.toNat) hp hV Wq1 Wq1 Wq1 (base:=14) (from_:=4) (word:=2) g3 ok.Jw Wq1 hBD b3.z hold;have hBR:R4.getD 13 0=((s.r.length - p.Jo.toNat:Nat):Int):=by rw[s4 13 Wq5,b3.br];omega
 obtain⟨k5,R5,W5,g5,s5,o5,n5,l5,hold5⟩:=HGo.stack (B:=s.r.length - p.Jo.toNat) hp hV Wq1 Wq1 Wq1 (base:=13) (from_:=20) (word:=3) g4 ok.Jx Wq1 hBR (by rw[s4 15 Wq5,b3.z]) hold4;have hpos:k5=17+(iz p pl).length:=by
  have hpre:C=(qc p e++iz p pl)++(qy p pl (17+(iz p pl).length)++[⟨19,0,0,0,2⟩]):=by rw[hC2,hb];simp only[ap]
  have:=HGo.pos g5 cJ hpre;rw[this,ae,hh17]
 have e1:W5.getD 1 0=s.flags:=by rw[o5 1 Wq5 Wq1,o4 1 Wq5 Wq1,ws3 1 Wq5,w1]
 obtain⟨f1,f2,f3,f4⟩:=HGo.fin ok rfl hp hV g5 hpos cJ Wq1 (by rw[s5 15 Wq5,s4 15 Wq5,b3.z]) hold5 e1 hf15;rw[hVe];exact⟨r1,by omega,r3,by omega,f1,f2,by rw[f4 2 Wq5 Wq5 Wq5,o5 2 Wq5 Wq1,l4],by rw[f4 3 Wq5 Wq5 Wq5,l5],by omega,by omega,
  fun i hi=>by rw[f4 (4+i) Wq1 Wq1 Wq1,o5 (4+i) Wq1 Wq1,o4 (4+i) Wq1 Wq1,ws3 (4+i) Wq1,IX s i Wq1],
  fun i hi=>by rw[f4 _ Wq1 Wq1 Wq1,o5 _ Wq1 Wq1,n4 i hi],
  fun i hi=>by rw[f4 (20+i) Wq1 Wq1 Wq1,o5 (20+i) Wq1 Wq1,o4 (20+i) Wq1 Wq1,ws3 (20+i) Wq1,IW s i Wq1],
  fun i hi=>by rw[f4 _ Wq1 Wq1 Wq1,n5 i hi],f3⟩
def fZ(T:List Int)(n at_:Int):List Int:=bif decide (0≤n)then T.set n.toNat (if at_>T.getD n.toNat 0 then at_ else T.getD n.toNat 0)else T
def kq(x:II):Bool:=x.op==3||x.op==4
def eZ:List II→Nat→List Int→List Int
 |[],_,T=>T
 |x::c,k,T=>eZ c (k+1) (bif kq x then fZ (fZ T x.a k) x.b k else T)
def jt(T:List Int)(l:List Int)(at_:Int):List Int:=l.foldl (fun T n=>fZ T n at_) T
def iota(n:Nat):List Int:=(List.range n).map fun k:Nat=>(k:Int)
def gi(p:Pg):List Int:=jt (jt (jt (eZ p.code 0 (iota p.code.length)) p.Jw p.code.length) p.Jx p.code.length) [p.flags,p.target] p.code.length
def Up(A B:List Int):Prop:=B.length=A.length∧∀i,A.getD i 0≤B.getD i 0
theorem Up.refl(A:List Int):Up A A:=⟨rfl,fun _=>Int.le_refl _⟩
theorem Up.trans{A B D:List Int}(h:Up A B)(k:Up B D):Up A D:=⟨k.1.trans h.1,fun i=>Int.le_trans (h.2 i) (k.2 i)⟩
theorem jv(T:List Int)(n a:Int):Up T (fZ T n a):=by
 unfold fZ;cases decide (0≤n)with
 |false=>exact Up.refl T
 |true=>
  refine⟨by rw[ac,aG],fun i=>?_⟩;rw[ac];by_cases e:n.toNat=i
  ·subst e;by_cases hl:n.toNat<T.length
   ·rw[cR hl];split<;>omega
   rw[List.set_eq_of_length_le Wq1];exact Int.le_refl _
  rw[cA e];exact Int.le_refl _
theorem uA{T:List Int}{n a:Int}(h0:0≤n)(h1:n.toNat<T.length):a≤(fZ T n a).getD n.toNat 0:=by
 unfold fZ;rw[ay h0,ac,cR h1];split<;>omega
theorem i7:∀(l:List Int) (T:List Int) (a:Int),Up T (jt T l a)
 |[],T,a=>Up.refl T
 |n::l,T,a=>(jv T n a).trans (i7 l (fZ T n a) a)
theorem nP:∀(l:List Int) (T:List Int) (a:Int),∀n,n∈l→0≤n→n.toNat<T.length→a≤(jt T l a).getD n.toNat 0
 |[],_,_,n,hn,_,_=>by cases hn
 |m::l,T,a,n,hn,h0,h1=>by
  show a≤(jt (fZ T m a) l a).getD n.toNat 0;have hl:=(jv T m a).1;rcases aK.1 hn with rfl|hn
  ·exact Int.le_trans (uA h0 h1) ((i7 l (fZ T n a) a).2 _)
  exact nP l (fZ T m a) a n hn h0 Wq1
theorem jM:∀(c:List II) (k:Nat) (T:List Int),Up T (eZ c k T)
 |[],_,T=>Up.refl T
 |x::c,k,T=>by
  refine Up.trans ?_ (jM c (k+1) _);cases kq x with
  |true=>exact(jv T x.a k).trans (jv _ x.b k)
  |false=>exact Up.refl T
theorem rG:∀(c:List II) (k:Nat) (T:List Int) (i:Nat) (x:II),c[i]? =some x→kq x=true→(0≤x.a∧x.a.toNat<T.length)→(0≤x.b∧x.b.toNat<T.length)→
  ((k+i:Nat):Int)≤(eZ c k T).getD x.a.toNat 0∧((k+i:Nat):Int)≤(eZ c k T).getD x.b.toNat 0
 |[],_,_,i,x,h,_,_,_=>by cases h
 |y::c,k,T,0,x,h,hx,ha,hb=>by
  obtain rfl:y=x:=by simpa using h
  have e:eZ (y::c) k T=eZ c (k+1) (fZ (fZ T y.a k) y.b k):=by
   show eZ c (k+1) (bif kq y then _ else _)=_;rw[hx];rfl
  have h1:=(jv T y.a k).1;have h2:=jM c (k+1) (fZ (fZ T y.a k) y.b k);have h3:=uA (T:=T) (a:=k) ha.1 ha.2;have h4:=uA (T:=fZ T y.a k) (a:=k) hb.1 Wq1;have h5:=(jv (fZ T y.a k) y.b k).2 y.a.toNat;rw[e,Nat.add_zero];exact⟨Int.le_trans h3 (Int.le_trans h5 (h2.2 _)),Int.le_trans h4 (h2.2 _)⟩
 |y::c,k,T,i+1,x,h,hx,ha,hb=>by
  have hl:(bif kq y then fZ (fZ T y.a k) y.b k else T).length=T.length:=by
   cases kq y with
   |true=>exact((jv T y.a k).trans (jv _ y.b k)).1
   |false=>rfl
  have:=rG c (k+1) (bif kq y then fZ (fZ T y.a k) y.b k else T) i x (by simpa using h) hx ⟨ha.1,by omega⟩ ⟨hb.1,by omega⟩;rw[show k+1+i=k+(i+1) by omega]at this;exact this
theorem Hm{n i:Nat}(h:i<n):(iota n).getD i 0=i:=by
 unfold iota;rw[aw,aZ,List.getElem?_range h];rfl
theorem oB(n:Nat):(iota n).length=n:=by simp[iota]
theorem u9(p:Pg):Up (eZ p.code 0 (iota p.code.length)) (gi p):=((i7 _ _ _).trans (i7 _ _ _)).trans (i7 _ _ _)
theorem He(p:Pg):(gi p).length=p.code.length:=by rw[(u9 p).1,(jM _ _ _).1,oB]
theorem D8(p:Pg){i:Nat}(h:i<p.code.length):(i:Int)≤(gi p).getD i 0:=by
 have h1:=((jM p.code 0 (iota p.code.length)).trans (u9 p)).2 i;rw[Hm h]at h1;exact h1
theorem D7(p:Pg){n:Nat}{x:II}(h:p.code[n]? =some x)(hx:kq x=true)(ha:0≤x.a∧x.a<p.code.length)(hb:0≤x.b∧x.b<p.code.length):(n:Int)≤(gi p).getD x.a.toNat 0∧(n:Int)≤(gi p).getD x.b.toNat 0:=by
 have h1:=rG p.code 0 (iota p.code.length) n x h hx ⟨ha.1,by rw[oB];omega⟩ ⟨hb.1,by rw[oB];omega⟩;rw[bl]at h1;exact⟨Int.le_trans h1.1 ((u9 p).2 _),Int.le_trans h1.2 ((u9 p).2 _)⟩
theorem oz(p:Pg){n:Int}(h:n∈p.Jw∨n∈p.Jx∨n=p.flags∨n=p.target)(h0:0≤n∧n<p.code.length):(p.code.length:Int)≤(gi p).getD n.toNat 0:=by
 have l0:(eZ p.code 0 (iota p.code.length)).length=p.code.length:=by rw[(jM _ _ _).1,oB]
 have l1:=(i7 p.Jw (eZ p.code 0 (iota p.code.length)) p.code.length).1;have u2:=i7 p.Jx (jt (eZ p.code 0 (iota p.code.length)) p.Jw p.code.length) p.code.length;have l2:=u2.1;have u3:=i7 [p.flags,p.target] (jt (jt (eZ p.code 0 (iota p.code.length)) p.Jw p.code.length) p.Jx p.code.length) p.code.length;rcases h with h|h|h
 ·exact Int.le_trans (nP p.Jw _ _ n h h0.1 Wq1) ((u2.trans u3).2 _)
 ·exact Int.le_trans (nP p.Jx _ _ n h h0.1 Wq1) (u3.2 _)
 exact nP [p.flags,p.target] _ _ n (by simpa using h) h0.1 Wq1
def lX(T:List Int)(i j:Nat):Bool:=(decide ((i:Int)<T.getD j 0)&&decide ((j:Int)<T.getD i 0))||((i:Int)==(j:Int))
def eQ(T place:List Int)(n:Nat)(k:Int):Nat→Bool
 |0=>false
 |i+1=>eQ T place n k i||((place.getD i 0==k)&&lX T i n)
def jR(T place:List Int)(n:Nat):Nat→Nat→Nat
 |0,k=>k
 |f+1,k=>bif eQ T place n k place.length then jR T place n f (k+1)else k
def fH(T place:List Int)(n:Nat):Nat:=jR T place n place.length 0
def gh(T reg:List Int)(n:Nat):Nat→Nat
 |0=>n
 |k+1=>bif((reg.getD k 0 != -1)&&lX T n k)&&decide (T.getD (gh T reg n k) 0<T.getD k 0)then k else gh T reg n k
def ko(T:List Int)(pl:Pl)(n:Nat):Pl:=
 ⟨pl.reg.set n (-1),pl.slot.set n (fH T pl.slot n),if((fH T pl.slot n:Nat):Int)+1>pl.JM then((fH T pl.slot n:Nat):Int)+1 else pl.JM⟩
def lM(T:List Int)(JI:Int)(pl:Pl)(n:Nat):Pl:=
 bif decide (((fH T pl.reg n:Nat):Int)<JI)then⟨pl.reg.set n (fH T pl.reg n),pl.slot,pl.JM⟩else
 bif(gh T pl.reg n n !=n)then ko T ⟨pl.reg.set n (pl.reg.getD (gh T pl.reg n n) 0),pl.slot,pl.JM⟩ (gh T pl.reg n n)else ko T pl n
def gJ(T:List Int)(JI:Int)(N:Nat):Nat→Pl
 |0=>⟨List.replicate N (-1),List.replicate N (-1),0⟩
 |n+1=>lM T JI (gJ T JI N n) n
theorem qP(T place:List Int)(n:Nat)(k:Int):∀m,eQ T place n k m=true↔∃i,i<m∧place.getD i 0=k∧lX T i n=true
 |0=>⟨fun h=>by(cases h),fun⟨i,h,_⟩=>absurd h Wq1⟩
 |m+1=>by
  show(eQ T place n k m||((place.getD m 0==k)&&lX T m n))=true↔_;rw[Bool.or_eq_true,qP T place n k m,aB,beq_iff_eq];constructor
  ·rintro(⟨i,h1,h2⟩|⟨h1,h2⟩)
   ·exact⟨i,by omega,h2⟩
   exact⟨m,by omega,h1,h2⟩
  rintro⟨i,h1,h2,h3⟩;by_cases e:i=m
  ·subst e;exact Or.inr ⟨h2,h3⟩
  exact Or.inl ⟨i,by omega,h2,h3⟩
theorem pigeon(place:List Int)(h:∀k:Nat,k≤place.length→∃i,i<place.length∧place.getD i 0=(k:Int)):False:=by
 have hc:∃f:Nat→Nat,∀k,k≤place.length→f k<place.length∧place.getD (f k) 0=(k:Int):=by
  refine⟨fun k=>if hk:k≤place.length then Classical.choose (h k hk)else 0,fun k hk=>?_⟩;simp only[dif_pos hk];exact Classical.choose_spec (h k hk)
 obtain⟨f,hf⟩:=hc;have h1:=lV place.length ((List.range (place.length+1)).map f) ?_ ?_
 ·simp at h1;omega
 ·rw[List.Nodup,List.pairwise_map];refine List.Pairwise.imp_of_mem ?_ (List.nodup_range (n:=place.length+1));intro a b ha hb hab e;have h2:=(hf a (by have:=List.mem_range.1 ha;omega)).2;have h3:=(hf b (by have:=List.mem_range.1 hb;omega)).2;rw[e,h3]at h2;exact hab Wq1
 intro x hx;obtain⟨k,hk,rfl⟩:=bh.1 hx;exact(hf k (by have:=List.mem_range.1 hk;omega)).1
theorem w8(T place:List Int)(n:Nat):∀f k,k+f=place.length→(∀j,j<k→eQ T place n j place.length=true)→eQ T place n (jR T place n f k) place.length=false∧jR T place n f k≤place.length∧∀j,j<jR T place n f k→eQ T place n j place.length=true
 |0,k,hk,hb=>by
  refine⟨?_,by show k≤_;omega,hb⟩;show eQ T place n k place.length=false;cases h:eQ T place n k place.length with
  |false=>rfl
  |true=>
   refine(pigeon place fun j hj=>?_).elim;have ht:eQ T place n j place.length=true:=by
    by_cases e:j=k
    ·rw[e];exact h
    exact hb j Wq1
   obtain⟨i,h1,h2, -⟩:=(qP T place n j place.length).1 ht;exact⟨i,h1,h2⟩
 |f+1,k,hk,hb=>by
  cases h:eQ T place n k place.length with
  |false=>
   have e:jR T place n (f+1) k=k:=by show(bif eQ T place n k place.length then _ else k)=k;rw[h];rfl
   rw[e];exact⟨h,by omega,hb⟩
  |true=>
   have e:jR T place n (f+1) k=jR T place n f (k+1):=by show(bif eQ T place n k place.length then jR T place n f (k+1)else k)=_;rw[h];rfl
   rw[e];exact w8 T place n f (k+1) Wq1 (fun j hj=>by
    by_cases e:j=k
    ·rw[e];exact h
    exact hb j Wq1)
theorem px(T place:List Int)(n:Nat):eQ T place n (fH T place n) place.length=false∧fH T place n≤place.length∧∀j,j<fH T place n→eQ T place n j place.length=true:=
 w8 T place n place.length 0 Wq1 (fun j hj=>absurd hj Wq1)
theorem mS{T place:List Int}{n i:Nat}(hi:i<place.length)(h:place.getD i 0=(fH T place n:Nat)):lX T i n=false:=by
 cases hm:lX T i n with
 |false=>rfl
 |true=>
  have:=(qP T place n (fH T place n) place.length).2 ⟨i,hi,h,hm⟩;rw[(px T place n).1]at this;cases this
theorem yu{T:List Int}{i j:Nat}(h:lX T i j=false)(hij:i<j)(hT:(j:Int)≤T.getD j 0):T.getD i 0≤j:=by
 unfold lX at h;simp only[bj,Bool.and_eq_false_iff,ah]at h;omega
theorem G4{T:List Int}{i j:Nat}(h:lX T i j=false)(hij:j<i)(hT:(i:Int)≤T.getD i 0):T.getD j 0≤i:=by
 unfold lX at h;simp only[bj,Bool.and_eq_false_iff,ah]at h;omega
theorem rF(T reg:List Int)(n:Nat):∀k,gh T reg n k=n∨(gh T reg n k<k∧reg.getD (gh T reg n k) 0≠ -1∧lX T n (gh T reg n k)=true)
 |0=>Or.inl rfl
 |k+1=>by
  have e:gh T reg n (k+1)=bif((reg.getD k 0 != -1)&&lX T n k)&&decide (T.getD (gh T reg n k) 0<T.getD k 0)then k else gh T reg n k:=rfl
  cases hc:((reg.getD k 0 != -1)&&lX T n k)&&decide (T.getD (gh T reg n k) 0<T.getD k 0)with
  |true=>
   rw[hc,ac]at e;rw[e];simp only[aB,bne_iff_ne,ne_eq]at hc;exact Or.inr ⟨by omega,hc.1.1,hc.1.2⟩
  |false=>
   rw[hc,aa]at e;rw[e];rcases rF T reg n k with h|⟨h1,h2⟩
   ·exact Or.inl h
   exact Or.inr ⟨by omega,h2⟩
structure SInv(T:List Int)(JI:Int)(N n:Nat)(pl:Pl):Prop where
 rl:pl.reg.length=N
 sl:pl.slot.length=N
 had:∀i,i<n→(0≤pl.reg.getD i 0∧pl.reg.getD i 0<JI∧pl.slot.getD i 0= -1)∨(pl.reg.getD i 0= -1∧0≤pl.slot.getD i 0∧pl.slot.getD i 0≤N)
 new:∀i,n≤i→i<N→pl.reg.getD i 0= -1∧pl.slot.getD i 0= -1
 reg:∀i j,i<j→j<n→0≤pl.reg.getD i 0→pl.reg.getD i 0=pl.reg.getD j 0→T.getD i 0≤j
 slot:∀i j,i<j→j<n→0≤pl.slot.getD i 0→pl.slot.getD i 0=pl.slot.getD j 0→T.getD i 0≤j
theorem sinv0(T:List Int)(JI:Int)(N:Nat):SInv T JI N 0 (gJ T JI N 0):=
 ⟨by simp[gJ],by simp[gJ],fun i hi=>absurd hi Wq1,fun i _ hi=>by
  constructor<;>(show(List.replicate N (-1:Int)).getD i 0= -1;rw[aw,List.getElem?_replicate_of_lt hi];rfl),fun i j _ hj=>absurd hj Wq1,fun i j _ hj=>absurd hj Wq1⟩
theorem Dm{T:List Int}{JI:Int}{N n:Nat}{pl:Pl}(hT:∀i,i<N→(i:Int)≤T.getD i 0)(h:SInv T JI N n pl)(hn:n<N):SInv T JI N (n+1) (lM T JI pl n):=by
 have hrl:=h.rl;have hsl:=h.sl;obtain⟨nr,ns⟩:=h.new n (aN _) hn;unfold lM;by_cases hr:((fH T pl.reg n:Nat):Int)<JI
 ·rw[ay hr,ac];refine⟨by simp[hrl],hsl,fun i hi=>?_,fun i h1 h2=>?_,fun i j hij hj h0 he=>?_,fun i j hij hj h0 he=>?_⟩
  ·by_cases e:i=n
   ·subst e;refine Or.inl ?_;dsimp only;rw[cR Wq1];exact⟨by omega,hr,ns⟩
   dsimp only;rw[cA (fun x=>e x.symm)];exact h.had i Wq1
  ·dsimp only;rw[cA Wq1];exact h.new i Wq1 h2
  ·dsimp only at h0 he;by_cases ej:j=n
   ·subst ej;rw[cA Wq1,cR Wq1]at he;exact yu (mS Wq1 he) hij (hT j hn)
   rw[cA Wq1,cA Wq1]at he;rw[cA Wq1]at h0;exact h.reg i j hij Wq1 h0 he
  by_cases ej:j=n
  ·subst ej;dsimp only at h0 he;rw[ns]at he;omega
  exact h.slot i j hij Wq1 h0 he
 rw[az hr,aa];rcases rF T pl.reg n n with hl|⟨l1,l2,l3⟩
 ·rw[hl,show(n !=n)=false by simp,aa];unfold ko;have hf:=px T pl.slot n;refine⟨by simp[hrl],by simp[hsl],fun i hi=>?_,fun i h1 h2=>?_,fun i j hij hj h0 he=>?_,fun i j hij hj h0 he=>?_⟩
  ·dsimp only;by_cases e:i=n
   ·subst e;refine Or.inr ?_;rw[cR Wq1,cR Wq1];exact⟨rfl,by omega,by omega⟩
   rw[cA (fun x=>e x.symm),cA (fun x=>e x.symm)];exact h.had i Wq1
  ·dsimp only;rw[cA Wq1,cA Wq1];exact h.new i Wq1 h2
  ·dsimp only at h0 he;rw[cA Wq1]at he h0;by_cases ej:j=n
   ·subst ej;rw[cR Wq1]at he;omega
   rw[cA Wq1]at he;exact h.reg i j hij Wq1 h0 he
  dsimp only at h0 he;rw[cA Wq1]at he h0;by_cases ej:j=n
  ·subst ej;rw[cR Wq1]at he;exact yu (mS Wq1 he) hij (hT j hn)
  rw[cA Wq1]at he;exact h.slot i j hij Wq1 h0 he
 obtain⟨lg,hlg⟩:=Zgn (gh T pl.reg n n);rw[hlg]at l1 l2 l3⊢;rw[show(lg !=n)=true by simp;omega,ac];have hm:(n:Int)<T.getD lg 0:=by
  unfold lX at l3;simp only[Bool.or_eq_true,aB,ak,beq_iff_eq]at l3;omega
 obtain⟨hreg,hlt,hslot⟩:0≤pl.reg.getD lg 0∧pl.reg.getD lg 0<JI∧pl.slot.getD lg 0= -1:=by
  rcases h.had lg l1 with q|⟨q, -⟩
  ·exact q
  exact absurd q l2
 unfold ko;have hf:=px T pl.slot lg;have er:∀i,i≠lg→i≠n→((pl.reg.set n (pl.reg.getD lg 0)).set lg (-1)).getD i 0=pl.reg.getD i 0:=fun i h1 h2=>by rw[cA (fun e=>h1 e.symm),cA (fun e=>h2 e.symm)]
 have ern:((pl.reg.set n (pl.reg.getD lg 0)).set lg (-1)).getD n 0=pl.reg.getD lg 0:=by rw[cA Wq1,cR Wq1]
 have erl:((pl.reg.set n (pl.reg.getD lg 0)).set lg (-1)).getD lg 0= -1:=cR (by rw[aG];omega);have es:∀i,i≠lg→(pl.slot.set lg ((fH T pl.slot lg:Nat):Int)).getD i 0=pl.slot.getD i 0:=fun i h1=>cA (fun e=>h1 e.symm)
 have esl:(pl.slot.set lg ((fH T pl.slot lg:Nat):Int)).getD lg 0=(fH T pl.slot lg:Nat):=cR Wq1;refine⟨by simp[hrl],by simp[hsl],fun i hi=>?_,fun i h1 h2=>?_,fun i j hij hj h0 he=>?_,fun i j hij hj h0 he=>?_⟩
 ·dsimp only;by_cases e:i=lg
  ·subst e;rw[erl,esl];exact Or.inr ⟨rfl,by omega,by omega⟩
  by_cases e2:i=n
  ·subst e2;rw[ern,es _ e];exact Or.inl ⟨hreg,hlt,ns⟩
  rw[er i e e2,es i e];exact h.had i Wq1
 ·dsimp only;rw[er i Wq1 Wq1,es i Wq1];exact h.new i Wq1 h2
 ·dsimp only at h0 he;by_cases ei:i=lg
  ·subst ei;rw[erl]at h0;omega
  rw[er i ei Wq1]at h0 he;by_cases ejn:j=n
  ·subst ejn;rw[ern]at he;by_cases hil:i<lg
   ·have:=h.reg i lg hil l1 h0 he;omega
   have:=h.reg lg i Wq1 Wq1 hreg he.symm;omega
  by_cases ejl:j=lg
  ·subst ejl;rw[erl]at he;omega
  rw[er j ejl ejn]at he;exact h.reg i j hij Wq1 h0 he
 dsimp only at h0 he;by_cases ei:i=lg
 ·subst ei;rw[es j Wq1]at he;rw[esl]at he;exact G4 (mS Wq1 he.symm) hij (hT j Wq1)
 rw[es i ei]at h0 he;by_cases ejl:j=lg
 ·subst ejl;rw[esl]at he;exact yu (mS Wq1 he) hij (hT j Wq1)
 rw[es j ejl]at he;by_cases ejn:j=n
 ·subst ejn;rw[ns]at he;omega
 exact h.slot i j hij Wq1 h0 he
theorem zn{T:List Int}{JI:Int}{N:Nat}(hT:∀i,i<N→(i:Int)≤T.getD i 0):∀n,n≤N→SInv T JI N n (gJ T JI N n)
 |0,_=>sinv0 T JI N
 |n+1,h=>Dm hT (zn hT n Wq1) Wq1
theorem DI{T:List Int}{N:Nat}(hT:∀i,i<N→(i:Int)≤T.getD i 0)(hN:N≤64):FO (gJ T 7 N N) T N:=by
 have h:=zn (JI:=7) hT N (aN _);obtain⟨pl,hpl⟩:=Zgn (gJ T 7 N N);rw[hpl]at h⊢;have e:∀n:Nat,pl.r n=pl.reg.getD n 0∧pl.s n=pl.slot.getD n 0:=fun n=>by simp only[Pl.r,Pl.s,aO,and_self]
 have hin:∀n:Nat,pl.inR n=decide (0≤pl.reg.getD n 0):=fun n=>by unfold Pl.inR;rw[(e n).1]
 refine⟨fun n hn=>?_,fun i j hij hj h1 h2 he=>?_,fun i j hij hj h1 h2 he=>?_⟩
 ·unfold Pl.has;rw[hin,(e n).1,(e n).2];rcases h.had n hn with⟨q1,q2, -⟩|⟨q1,q2,q3⟩
  ·exact Or.inl ⟨ay q1,q2⟩
  exact Or.inr ⟨az Wq1,q2,by omega⟩
 ·rw[hin]at h1;rw[(e i).1,(e j).1]at he;exact h.reg i j hij hj (by simpa using h1) he
 rw[hin]at h1;rw[(e i).2,(e j).2]at he;refine h.slot i j hij hj ?_ he;rcases h.had i (by omega)with⟨q1, -⟩|⟨-,q, -⟩
 ·rw[ay q1]at h1;cases h1
 exact q
def II.zero:II:=⟨0,0,0,0,0⟩
def iI(U:List Bool)(l:List Int):List Bool:=l.foldl (fun U n=>bif n != -1 then U.set n.toNat true else U) U
def kf(code:List II):Nat→List Bool→List Bool
 |0,U=>U
 |k+1,U=>kf code k (bif U.getD k false&&kq (code.getD k II.zero)then iI U [(code.getD k II.zero).a,(code.getD k II.zero).b]else U)
def BK(p:Pg):List Bool:=iI (iI (iI (List.replicate p.code.length false) p.Jw) p.Jx) [p.flags,p.target]
def fQ(p:Pg):List Bool:=kf p.code p.code.length (BK p)
def mX(x:II)(pl:List Int)(n:Nat):II:=bif kq x then⟨x.op,n,pl.getD x.a.toNat 0,pl.getD x.b.toNat 0,x.imm⟩else⟨x.op,n,x.a,x.b,x.imm⟩
def kH(U:List Bool):List II→Nat→List Int→List II→List Int×List II
 |[],_,pl,c=>(pl,c)
 |x::suf,i,pl,c=>bif U.getD i false then kH U suf (i+1) (pl.set i (c.length:Int)) (c++[mX x (pl.set i (c.length:Int)) c.length])else kH U suf (i+1) pl c
def dG(pl:List Int)(l:List Int):List Int:=l.map fun n=>pl.getD n.toNat 0
def ee(p:Pg):List Int×List II:=kH (fQ p) p.code 0 (List.replicate p.code.length 0) []
def ef(pl:List Int)(n:Int):Int:=bif n != -1 then pl.getD n.toNat 0 else n
def cE(p:Pg):Pg:=⟨(ee p).2,p.Jn,p.Jo,p.JK,p.JN,dG (ee p).1 p.Jw,dG (ee p).1 p.Jx,ef (ee p).1 p.flags,p.next,ef (ee p).1 p.target,p.branch,p.taken,p.count,(ee p).2.length⟩
def WfC(code:List II):Prop:=∀(i:Nat) (x:II),code[i]? =some x→kq x=true→(0≤x.a∧x.a<i)∧(0≤x.b∧x.b<i)
abbrev us(U:List Bool)(n:Nat):Prop:=U.getD n false=true
theorem zV{U:List Bool}{j:Nat}(hj:j<U.length):(U.set j true).getD j false=true:=by rw[aw,List.getElem?_set_self hj];rfl
theorem EK{U:List Bool}{i j:Nat}{b:Bool}(h:i≠j):(U.set i b).getD j false=U.getD j false:=by rw[aw,bo h,←aw]
theorem fU:∀(l:List Int) (U:List Bool),(iI U l).length=U.length
 |[],_=>rfl
 |n::l,U=>by
  show(iI (bif n != -1 then U.set n.toNat true else U) l).length=_;rw[fU l];cases n != -1<;>simp
theorem jC:∀(l:List Int) (U:List Bool) (i:Nat),us U i→us (iI U l) i
 |[],_,_,h=>h
 |n::l,U,i,h=>by
  show us (iI (bif n != -1 then U.set n.toNat true else U) l) i;refine jC l _ i ?_;cases n != -1 with
  |false=>exact h
  |true=>
   show(U.set n.toNat true).getD i false=true;by_cases e:n.toNat=i
   ·subst e;refine zV ?_;by_cases hl:n.toNat<U.length
    ·exact hl
    have h:U.getD n.toNat false=true:=h;rw[aw,bH Wq1]at h;cases h
   rw[EK e];exact h
theorem mP:∀(l:List Int) (U:List Bool) (n:Int),n∈l→0≤n→n.toNat<U.length→us (iI U l) n.toNat
 |[],_,_,h,_,_=>by cases h
 |m::l,U,n,h,h0,h1=>by
  show us (iI (bif m != -1 then U.set m.toNat true else U) l) n.toNat;rcases aK.1 h with rfl|h
  ·refine jC l _ _ ?_;rw[show(n != -1)=true by simp;omega];exact zV h1
  exact mP l _ n h h0 (by cases m != -1<;>simpa using h1)
theorem tJ:∀(l:List Int) (U:List Bool) (i:Nat),us (iI U l) i→us U i∨∃n,n∈l∧n≠ -1∧n.toNat=i
 |[],_,_,h=>Or.inl h
 |m::l,U,i,h=>by
  have h:us (iI (bif m != -1 then U.set m.toNat true else U) l) i:=h;rcases tJ l _ i h with h|⟨n,h1,h2⟩
  ·by_cases e:m= -1
   ·subst e;exact Or.inl h
   rw[show(m != -1)=true by simpa using e,ac]at h;by_cases e2:m.toNat=i
   ·exact Or.inr ⟨m,by simp,e,e2⟩
   rw[us,EK e2]at h;exact Or.inl h
  exact Or.inr ⟨n,by simp[h1],h2⟩
theorem lj(code:List II):∀(k:Nat) (U:List Bool) (i:Nat),us U i→us (kf code k U) i
 |0,_,_,h=>h
 |k+1,U,i,h=>by
  show us (kf code k _) i;refine lj code k _ i ?_;cases U.getD k false&&kq (code.getD k II.zero)with
  |true=>exact jC _ _ _ h
  |false=>exact h
theorem xo{code:List II}{k:Nat}(hk:k<code.length):code[k]? =some (code.getD k II.zero):=by rw[aw,ai hk];rfl
theorem sy{code:List II}(hw:WfC code):∀(k:Nat),k≤code.length→∀(U:List Bool) (i:Nat),k≤i→us (kf code k U) i→us U i
 |0,_,_,_,_,h=>h
 |k+1,hk,U,i,hi,h=>by
  have h:us (kf code k (bif U.getD k false&&kq (code.getD k II.zero)then iI U [(code.getD k II.zero).a,(code.getD k II.zero).b]else U)) i:=h;have h1:=sy hw k Wq1 _ i Wq1 h;cases hc:U.getD k false&&kq (code.getD k II.zero)with
  |false=>rw[hc]at h1;exact h1
  |true=>
   rw[hc,ac]at h1;obtain⟨ha,hb⟩:=hw k _ (xo Wq1) (by simp only[aB]at hc;exact hc.2);rcases tJ _ _ _ h1 with h2|⟨n,h2,h3,h4⟩
   ·exact h2
   simp only[aK,aY,or_false]at h2;rcases h2 with rfl|rfl<;>omega
theorem oQ{code:List II}(hw:WfC code):∀(k:Nat),k≤code.length→∀(U:List Bool),U.length=code.length→∀(i:Nat),i<k→us (kf code k U) i→kq (code.getD i II.zero)=true→us (kf code k U) (code.getD i II.zero).a.toNat∧us (kf code k U) (code.getD i II.zero).b.toNat
 |0,_,_,_,i,hi,_,_=>absurd hi Wq1
 |k+1,hk,U,hU,i,hi,h,hab=>by
  obtain⟨U',hU'⟩:∃U',(bif U.getD k false&&kq (code.getD k II.zero)then iI U [(code.getD k II.zero).a,(code.getD k II.zero).b]else U)=U':=⟨_,rfl⟩;have e:kf code (k+1) U=kf code k U':=by rw[←hU'];rfl
  have hl:U'.length=code.length:=by
   rw[←hU',←hU];cases U.getD k false&&kq (code.getD k II.zero)with
   |true=>exact fU _ _
   |false=>rfl
  rw[e]at h⊢;by_cases hik:i=k
  ·subst hik;have h1:=sy hw i Wq1 U' i (aN _) h;obtain⟨ha,hb⟩:=hw i _ (xo Wq1) hab;have hUi:us U i:=by
    cases hc:U.getD i false&&kq (code.getD i II.zero)with
    |false=>rw[hc,aa]at hU';rw[hU'];exact h1
    |true=>simp only[aB]at hc;exact hc.1
   have hc:(U.getD i false&&kq (code.getD i II.zero))=true:=by rw[hab,Bool.and_true];exact hUi
   rw[hc,ac]at hU';rw[←hU'];exact⟨lj code i _ _ (mP _ _ _ cJ ha.1 Wq1),lj code i _ _ (mP _ _ _ cJ hb.1 Wq1)⟩
  exact oQ hw k Wq1 U' hl i Wq1 h hab
section
variable {D R:List Int}
structure FInv(U:List Bool)(code:List II)(i:Nat)(pl:List Int)(c:List II)(D R:List Int):Prop where
 len:pl.length=code.length
 val:∀n,n<i→us U n→II.in_ (pl.getD n 0) c∧dT D R c (pl.getD n 0)=dT D R code n
def WfO(code:List II):Prop:=∀(i:Nat) (x:II),code[i]? =some x→(x.op=0∨x.op=1∨x.op=2)∨kq x=true
theorem s7{V V':List Int}{x:II}(h:x.op=0∨x.op=1∨x.op=2)(y:II)(h1:y.op=x.op)(h2:y.imm=x.imm):kj D R V y=kj D R V' x:=by
 obtain⟨op,dst,a,b,imm⟩:=x;obtain⟨op2,dst2,a2,b2,imm2⟩:=y;dsimp only at h h1 h2;subst h1 h2;rcases h with rfl|rfl|rfl<;>rfl
theorem vN{V V':List Int}{x y:II}(h1:y.op=x.op)(h2:y.imm=x.imm)(hx:kq x=true)(ha:V.getD y.a.toNat 0=V'.getD x.a.toNat 0)(hb:V.getD y.b.toNat 0=V'.getD x.b.toNat 0):kj D R V y=kj D R V' x:=by
 obtain⟨op,dst,a,b,imm⟩:=x;obtain⟨op2,dst2,a2,b2,imm2⟩:=y;dsimp only at h1 h2 ha hb;subst h1 h2;unfold kq at hx;simp only[Bool.or_eq_true,beq_iff_eq]at hx;rcases hx with rfl|rfl
 ·show(iu imm2 (V.getD a2.toNat 0) (V.getD b2.toNat 0)).1=(iu imm2 (V'.getD a.toNat 0) (V'.getD b.toNat 0)).1;rw[ha,hb]
 show(iu imm2 (V.getD a2.toNat 0) (V.getD b2.toNat 0)).2.1=(iu imm2 (V'.getD a.toNat 0) (V'.getD b.toNat 0)).2.1;rw[ha,hb]
theorem xS{code c:List II}{pl:List Int}{x:II}{n:Nat}(ho:(x.op=0∨x.op=1∨x.op=2)∨kq x=true)(ha:kq x=true→dT D R c (pl.getD x.a.toNat 0)=dT D R code x.a∧dT D R c (pl.getD x.b.toNat 0)=dT D R code x.b):
  kj D R (JR D R c) (mX x pl n)=kj D R (JR D R code) x:=by
 rcases ho with ho|hx
 ·have hx:kq x=false:=by unfold kq;rcases ho with h|h|h<;>rw[h]<;>rfl
  have e:mX x pl n=⟨x.op,n,x.a,x.b,x.imm⟩:=by unfold mX;rw[hx];rfl
  rw[e];exact s7 ho _ rfl rfl
 have e:mX x pl n=⟨x.op,n,pl.getD x.a.toNat 0,pl.getD x.b.toNat 0,x.imm⟩:=by unfold mX;rw[hx];rfl
 obtain⟨h1,h2⟩:=ha hx;rw[e];exact vN rfl rfl hx h1 h2
theorem Bb{code:List II}(hw:WfC code)(ho:WfO code){i:Nat}{x:II}(hx:code[i]? =some x):dT D R code i=kj D R (JR D R code) x:=by
 obtain⟨hi,hxe⟩:=ar.1 hx;have hsp:code=(code.take i++[x])++code.drop (i+1):=by rw[←hxe,ap,List.singleton_append,←List.drop_eq_getElem_cons hi,List.take_append_drop]
 have hl:(code.take i).length=i:=by rw[aC];omega
 have e1:dT D R code i=dT D R (code.take i++[x]) i:=by
  conv=>lhs;rw[hsp]
  exact gR ⟨by omega,by rw[ae,hl];simp;omega⟩
 have e2:dT D R (code.take i++[x]) i=kj D R (JR D R (code.take i)) x:=by
  have:=i6 (D:=D) (R:=R) (code.take i) x;rw[hl]at this;exact this
 rw[e1,e2];rcases ho i x hx with h|h
 ·exact s7 h _ rfl rfl
 obtain⟨⟨a1,a2⟩,b1,b2⟩:=hw i x hx h;have hsp2:code=code.take i++code.drop i:=(List.take_append_drop i code).symm;have ea:dT D R code x.a=dT D R (code.take i) x.a:=by
  conv=>lhs;rw[hsp2]
  exact gR ⟨a1,by rw[hl];exact a2⟩
 have eb:dT D R code x.b=dT D R (code.take i) x.b:=by
  conv=>lhs;rw[hsp2]
  exact gR ⟨b1,by rw[hl];exact b2⟩
 exact vN rfl rfl h ea.symm eb.symm
theorem EM{U:List Bool}{code:List II}(hw:WfC code)(ho:WfO code)(hcl:∀(i:Nat) (x:II),code[i]? =some x→us U i→kq x=true→us U x.a.toNat∧us U x.b.toNat):∀(suf:List II) (i:Nat) (pl:List Int) (c:List II),code.drop i=suf→i≤code.length→
  FInv U code i pl c D R→FInv U code code.length (kH U suf i pl c).1 (kH U suf i pl c).2 D R
 |[],i,pl,c,hs,hi,h=>by
  have:code.length=i:=by
   have:=congrArg List.length hs;rw[bn]at this;simp at this;omega
  rw[this];exact h
 |x::suf,i,pl,c,hs,hi,h=>by
  have hil:i<code.length:=by
   have:=congrArg List.length hs;rw[bn]at this;simp at this;omega
  have hx:code[i]? =some x:=by rw[List.drop_eq_getElem_cons hil]at hs;injection hs with h1 h2;rw[ai hil,h1]
  have hs':code.drop (i+1)=suf:=by rw[List.drop_eq_getElem_cons hil]at hs;injection hs
  cases hu:U.getD i false with
  |false=>
   have e:kH U (x::suf) i pl c=kH U suf (i+1) pl c:=by show(bif U.getD i false then _ else _)=_;rw[hu];rfl
   rw[e];refine EM hw ho hcl suf (i+1) pl c hs' Wq1 ⟨h.len,fun n hn hun=>?_⟩;by_cases en:n=i
   ·subst en;rw[us,hu]at hun;cases hun
   exact h.val n Wq1 hun
  |true=>
   have e:kH U (x::suf) i pl c=kH U suf (i+1) (pl.set i (c.length:Int)) (c++[mX x (pl.set i (c.length:Int)) c.length]):=by show(bif U.getD i false then _ else _)=_;rw[hu];rfl
   rw[e];refine EM hw ho hcl suf (i+1) _ _ hs' Wq1 ⟨by rw[aG];exact h.len,fun n hn hun=>?_⟩;have hlen:=h.len;by_cases en:n=i
   ·subst en;rw[cR Wq1];refine⟨mg _ _,?_⟩;rw[i6,Bb hw ho hx];refine xS (ho n x hx) (fun hab=>?_);obtain⟨⟨a1,a2⟩,b1,b2⟩:=hw n x hx hab;obtain⟨ua,ub⟩:=hcl n x hx hu hab;have ea:((x.a.toNat:Nat):Int)=x.a:=by omega
    have eb:((x.b.toNat:Nat):Int)=x.b:=by omega
    have ha:=(h.val x.a.toNat Wq1 ua).2;have hb:=(h.val x.b.toNat Wq1 ub).2;rw[ea]at ha;rw[eb]at hb;rw[cA Wq1,cA Wq1];exact⟨ha,hb⟩
   obtain⟨h1,h2⟩:=h.val n Wq1 hun;rw[cA (fun x=>en x.symm)];exact⟨pV _ h1,(gR h1).trans h2⟩
structure Raw(p:Pg):Prop where
 wf:WfC p.code
 ops:WfO p.code
 Jw:∀n,n∈p.Jw→II.in_ n p.code
 Jx:∀n,n∈p.Jx→II.in_ n p.code
 flags:p.flags= -1∨II.in_ p.flags p.code
 target:p.target= -1∨II.in_ p.target p.code
theorem Df{p:Pg}(h:Raw p){n:Int}(hn:n∈p.Jw∨n∈p.Jx∨n=p.flags∨n=p.target)(h0:II.in_ n p.code):
  II.in_ ((ee p).1.getD n.toNat 0) (ee p).2∧dT D R (ee p).2 ((ee p).1.getD n.toNat 0)=dT D R p.code n:=by
 have hl0:(BK p).length=p.code.length:=by unfold BK;rw[fU,fU,fU,aJ]
 have hcl:∀(i:Nat) (x:II),p.code[i]? =some x→us (fQ p) i→kq x=true→us (fQ p) x.a.toNat∧us (fQ p) x.b.toNat:=fun i x hx hu hab=>by
  have hi:i<p.code.length:=(ar.1 hx).1;have e:p.code.getD i II.zero=x:=by rw[aw,hx];rfl
  have:=oQ h.wf p.code.length (aN _) (BK p) hl0 i hi hu (by rw[e];exact hab);rw[e]at this;exact this
 have hF:=EM (D:=D) (R:=R) (U:=fQ p) h.wf h.ops hcl p.code 0 (List.replicate p.code.length 0) [] cJ (au _) ⟨by simp,fun n hn=>absurd hn Wq1⟩;obtain⟨i0,i1⟩:=h0;have en:((n.toNat:Nat):Int)=n:=by omega
 have hu:us (fQ p) n.toNat:=by
  refine lj p.code p.code.length _ _ ?_;unfold BK;rcases hn with hn|hn|hn
  ·exact jC _ _ _ (jC _ _ _ (mP _ _ _ hn i0 (by simp;omega)))
  ·exact jC _ _ _ (mP _ _ _ hn i0 (by rw[fU];simp;omega))
  exact mP _ _ _ (by simpa using hn) i0 (by rw[fU,fU];simp;omega)
 have:=hF.val n.toNat Wq1 hu;rw[en]at this;exact this
end
end Go.Ink
