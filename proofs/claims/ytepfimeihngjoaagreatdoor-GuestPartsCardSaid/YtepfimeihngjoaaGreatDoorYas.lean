/- Lemmas. -/
import Derived.Test.YtepfimeihngjoaaGreatDoorYap
import Derived.Test.YtepfimeihngjoaaGreatDoorYaq
set_option linter.all false
set_option maxRecDepth 100000
set_option maxHeartbeats 4000000
namespace Go.Ink
open List renaming length→J, replicate→R9
open IntKind renaming wrap→V9
open Go.RowKit
section
variable{C l:List HI}{k:Nat}{R W:Li}{M:HM}{pl:Pl}{T V:Li}{N:Nat}
structure PgOk(p:Pg)(T:Li):Prop where
 code:XV p.SE p.SG p.code
 uses:∀(n:Nat) (x:II),p.code[n]? =some x->x.op=3\/x.op=4->(n:Int)<=T.getD x.a.toNat 0/\(n:Int)<=T.getD x.b.toNat 0
 SP:∀n,n∈p.SP->0<=n/\n<J p.code/\(J p.code:Int)<=T.getD n.toNat 0
 SQ:∀n,n∈p.SQ->0<=n/\n<J p.code/\(J p.code:Int)<=T.getD n.toNat 0
 flags:0<=p.flags->p.flags<J p.code/\(J p.code:Int)<=T.getD p.flags.toNat 0
 target:0<=p.target->p.target<J p.code/\(J p.code:Int)<=T.getD p.target.toNat 0
 branch:p.branch=0\/(33<=p.branch/\p.branch<=37)
 n64:J p.code<=64
 SE:0<=p.SE/\p.SE<=16
 SG:0<=p.SG/\p.SG<=16
 Tc:0<=p.Tc/\p.Tc<=16
 Te:0<=p.Te/\p.Te<=16
 next:0<=p.next/\p.next<=4294967295
 taken:0<=p.taken/\p.taken<=4294967295
 count:1<=p.count/\p.count<=8
theorem Uv.fin{p:Pg}{pos:Nat}{f0:Int}(ok:PgOk p T)(hN:N=J p.code)(hp:Nm pl T N)(hV:VO V)(h:Uv C k (tB p pl pos++l) R W M)(hk:k=pos)(hl:l≠[])(hps:pos<=10000)(h15:R.getD 15 0=0)(hh:Gb pl T V N R W)(h1:W.getD 1 0=f0)(hf0:0<=f0/\f0<=15):
  M.words.getD 0 0=p.TG V (p.TT V f0)/\M.words.getD 1 0=p.TT V f0/\M.words.getD 36 0=p.count/\∀i,i≠0->i≠1->i≠36->M.words.getD i 0=W.getD i 0:=by
 subst hN;have hfl:=ok.flags;have htg:=ok.target;have hbr:=ok.branch;have hnx:=ok.next
 have htk:=ok.taken;have hct:=ok.count;have hC:C=C.take k++(tB p pl pos++l):=by rw[<-h.at_];exact(List.take_append_drop k C).symm
 obtain⟨rest,hrest⟩:∃rest,rest=jI p pl++(⟨15,0,15,9,0⟩::⟨1,11,0,0,V9 .u32 p.count⟩::⟨15,0,15,11,36⟩::⟨19,0,0,0,1⟩::l):=⟨_,I⟩;have e1:tB p pl pos++l=gM p pl++(⟨1,9,0,0,p.next⟩::(iy p (pos+J (gM p pl)+1)++rest)):=by
  rw[hrest];unfold tB;simp
 have hkl:J C=k+J (tB p pl pos++l):=by
  have h2:=h.at_;have h3:=congrArg List.length h2;rw[List.length_drop]at h3;have h4:0<J (tB p pl pos++l):=by rw[ar];have:=List.length_pos_iff.2 hl;omega
  omega
 rw[e1]at h hkl;obtain⟨k1,R1,W1,g1,g2,g3,g4⟩:=Uv.flagsEnd hp hV h h15 hh hfl h1;have a1:=Uv.li (rd:=9) g1;have hf:0<=p.TT V f0/\p.TT V f0<=15:=by
  unfold Pg.TT;cases decide (0<=p.flags)with
  |true=>grind
  |false=>exact hf0
 have hrl:=h.rl;have hfle:J (gM p pl)<=5:=by
  unfold gM;cases decide (0<=p.flags)with
  |false=>grind
  |true=>
   grind [j9]
 obtain⟨k2,R2,b1,b2,b3⟩:=Uv.Ui (pos:=pos+J (gM p pl)+1) a1 (λhb=>by
   have h5:k1+1=_:=rfl;have h6:=congrArg List.length a1.at_
   grind) O (by rw[cJ An,g2 15 An,h15]) hf g3 (cY (by rw[g1.rl];decide)) hbr
 have h15':R2.getD 15 0=0:=by rw[b3 15 An,cJ An,g2 15 An,h15]
 have hold2:Gb pl T V (J p.code) R2 W1:=hh.mono hp (λj hj=>by rw[b3 j gW,cJ O,g2 j gW]) (λj hj=>g4 j O);have tgt:∃k3 R3,Uv C k3 (⟨15,0,15,9,0⟩::⟨1,11,0,0,V9 .u32 p.count⟩::⟨15,0,15,11,36⟩::⟨19,0,0,0,1⟩::l) R3 W1 M/\R3.getD 9 0=p.TG V (p.TT V f0)/\R3.getD 15 0=0:=by
  rw[hrest]at b1;unfold jI at b1;unfold Pg.TG;by_cases hd:0<=p.target
  .rw[ak hd]at b1|-;have b1:Uv C k2 (j9 pl p.target 7++(⟨2,9,eJ pl p.target 7,0,0⟩::(⟨15,0,15,9,0⟩::⟨1,11,0,0,V9 .u32 p.count⟩::⟨15,0,15,11,36⟩::⟨19,0,0,0,1⟩::l))) R2 W1 M:=by
    rw[ae,aq]at b1;exact b1
   obtain⟨k3,R3,r,c1,c2,c3,c4,c5⟩:=Uv.take7 hp hV b1 h15' hold2 ⟨hd,(htg hd).1,(htg hd).2⟩;rw[c2]at c1;have c6:=Uv.mov (rd:=9) (ra:=r) c1;rw[c4]at c6;exact⟨_,_,c6,cY (by rw[c1.rl];decide),by rw[cJ An,c5 15 An,h15']⟩
  grind
 obtain⟨k3,R3,d1,d2,d3⟩:=tgt;have hpc:0<=p.TG V (p.TT V f0)/\p.TG V (p.TT V f0)<=4294967295:=by
  unfold Pg.TG;cases decide (0<=p.target)with
  |true=>exact iI hV _
  |false=>grind
 have hl3:=d1.rl;have hw3:=d1.wl;have x1:=Uv.st (ra:=15) (rb:=9) (p:=0) (v:=p.TG V (p.TT V f0)) d1 (by rw[d3];rfl) An (by grind [IntKind.wrap_u32]);have x2:=Uv.li (rd:=11) x1;have x3:=Uv.st (ra:=15) (rb:=11) (p:=36) (v:=p.count) x2 (by rw[cJ An,d3];rfl) An (by grind [cY,IntKind.wrap_u32]);have x4:=Uv.exit x3
 grind
end
variable{T:Li}{pl:Pl}
theorem PV{p:Pg}{s:St}{M:HM}(ok:PgOk p T)(hp:Nm pl T (J p.code))(hs:s.right=true)(hw:s.wf)(h:Uv (gh p pl) 0 (gh p pl) (R9 16 0) (Tm s) M):
  Left p (Th s.d s.r p.code) s M.words:=by
 obtain⟨hd16,hr16, -⟩:=St.fits hs;have hf15:0<=s.flags/\s.flags<=15:=⟨hw.flags.1,by grind [St.right]⟩;have hD:VO s.d:=λx hx=>hw.d x hx
 have hR:VO s.r:=λx hx=>hw.r x hx
 have hV:VO (Th s.d s.r p.code):=NI p.code hD hR ok.code;obtain⟨w0,w1,w2,w3⟩:=Oy s;obtain⟨e,he⟩:=Uk (J (fB p pl 0));have hnd:=ok.SE;have hnr:=ok.SG;have hhd:=ok.Tc;have hhr:=ok.Te;cases hrd:p.Ty with
 |false=>
  have hb:∀e,fB p pl e=[⟨1,15,0,0,0⟩]:=λe=>by grind [fB]
  unfold gh at h;rw[hb]at h;have:=(Uv.exit (Uv.li (rd:=15) h)).1;cases this
 |true=>
 have hmD:p.SE<=p.TK:=by unfold Pg.Ty at hrd;simp at hrd;exact hrd
 have hmD2:=AN (SK:=p.SE) (high:=p.Tc) (out:=J p.SP);have hmD3:=AO (SK:=p.SE) (high:=p.Tc) (out:=J p.SP) hnd hhd;have hmD0:p.TK=iZ p.SE p.Tc (J p.SP):=rfl;cases hrr:p.TI with
 |false=>
  have hb:∀e,fB p pl e=⟨1,15,0,0,0⟩::p7 e 14 2 p.SE p.TK:=λe=>by grind [fB]
  have h9:V9 .u32 (J (fB p pl 0):Nat)=((9:Nat):Int):=by rw[hb];rfl
  unfold gh at h;rw[h9,hb]at h;have g:=Uv.li (rd:=15) h;obtain⟨-, -,k',R',g1, -⟩:=Uv.room (base:=14) (word:=2) (n:=J s.d) (e:=9) (l:=[⟨19,0,0,0,2⟩]) (by exact g) O O (cY cE) (by rw[w2]) hd16 hnd O rfl;have:=(Uv.exit g1).1;cases this
 |true=>
 have hmR:p.SG<=p.TZ:=by unfold Pg.TI at hrr;simp at hrr;exact hrr
 have hmR2:=AN (SK:=p.SG) (high:=p.Te) (out:=J p.SQ);have hmR3:=AO (SK:=p.SG) (high:=p.Te) (out:=J p.SQ) hnr hhr;have hmR0:p.TZ=iZ p.SG p.Te (J p.SQ):=rfl;have hoD:J p.SP<=16:=by omega
 have hoR:J p.SQ<=16:=by omega
 have hb:∀e,fB p pl e=uT p e++(iT p pl++tB p pl (17+J (iT p pl))):=λe=>by grind [fB]
 have hwl:=ψ (pl:=pl) ok.n64 hoD hoR;have hel:=endL_le (pl:=pl) p (17+J (iT p pl));have hh17:∀e,J (uT p e)=17:=λe=>I
 have hbl:J (fB p pl 0)=17+(J (iT p pl)+J (tB p pl (17+J (iT p pl)))):=by rw[hb,ar,ar,hh17]
 have hwr:V9 .u32 (J (fB p pl 0):Nat)=(e:Int):=by rw[he,au];omega
 obtain⟨C,hC⟩:=Uk (gh p pl);rw[hC]at h;have hC2:C=fB p pl (e:Int)++[⟨19,0,0,0,2⟩]:=by rw[<-hC];unfold gh;rw[hwr]
 have hCe:C.drop e=[⟨19,0,0,0,2⟩]:=by
  rw[hC2,List.drop_append_of_le_length Do,List.drop_eq_nil_of_le Do];rfl
 have hC3:C=⟨1,15,0,0,0⟩::(p7 e 14 2 p.SE p.TK++(p7 e 13 3 p.SG p.TZ++(iT p pl++(tB p pl (17+J (iT p pl))++[⟨19,0,0,0,2⟩])))):=by
  rw[hC2,hb];unfold uT;simp
 have h1:Uv C 0 (⟨1,15,0,0,0⟩::(p7 e 14 2 p.SE p.TK++(p7 e 13 3 p.SG p.TZ++(iT p pl++(tB p pl (17+J (iT p pl))++[⟨19,0,0,0,2⟩]))))) (R9 16 0) (Tm s) M:=⟨by grind,h.rl,h.wl,h.ends⟩;have g0:=Uv.li (rd:=15) h1;obtain⟨r1,r2,k1,R1,g1,b1,s1⟩:=Uv.room (base:=14) (word:=2) (n:=J s.d) g0 O O (cY cE) (by rw[w2]) hd16 hnd O hCe;obtain⟨r3,r4,k2,R2,g2,b2,s2⟩:=Uv.room (base:=13) (word:=3) (n:=J s.r) g1 O O (by rw[s1 15 An];grind) (by rw[w3]) hr16 hnr O hCe;have hbase:Ry s.d s.r p.SE p.SG R2 (Tm s):=⟨by rw[s2 15 An,s1 15 An];grind,by rw[s2 14 An,b1],b2,λj hj=>RM s j O,λj hj=>RL s j O,hd16,hr16,⟨hnd.1,r1⟩,⟨hnr.1,r3⟩⟩;have g2:Uv C k2 (j6 p.SE p.SG pl p.code 0++(iX pl 14 4 2 p.SP++(iX pl 13 20 3 p.SQ++(tB p pl (17+J (iT p pl))++[⟨19,0,0,0,2⟩])))) R2 (Tm s) M:=by
  have e:iT p pl++(tB p pl (17+J (iT p pl))++[⟨19,0,0,0,2⟩])=j6 p.SE p.SG pl p.code 0++(iX pl 14 4 2 p.SP++(iX pl 13 20 3 p.SQ++(tB p pl (17+J (iT p pl))++[⟨19,0,0,0,2⟩]))):=by
   rw[show iT p pl=j6 p.SE p.SG pl p.code 0++(iX pl 14 4 2 p.SP++iX pl 13 20 3 p.SQ)from I];simp only[aq]
  rw[e]at g2;exact g2
 obtain⟨V,hVe⟩:=Uk (Th s.d s.r p.code);have hVal:∀i x,p.code[i]? =some x->x.ok p.SE p.SG (0+i)/\V.getD (0+i) 0=lw s.d s.r V x/\(x.op=3\/x.op=4->((0+i:Nat):Int)<=T.getD x.a.toNat 0/\((0+i:Nat):Int)<=T.getD x.b.toNat 0):=λi x hx=>by
  rw[bA];refine⟨ok.code i x hx,?_,ok.uses i x hx⟩;obtain⟨hlt,hxe⟩:=ap.1 hx;have hsp:p.code=p.code.take i++x::p.code.drop (i+1):=by rw[<-hxe,<-List.drop_eq_getElem_cons hlt,List.take_append_drop]
  grind [ok.code,Ι]
 rw[hVe]at hV;obtain⟨k3,R3,W3,g3,b3,hold,ws3⟩:=Uv.all (N:=J p.code) (V:=V) hp hD hR hV p.code 0 k2 R2 (Tm s) g2 O hVal hbase (λa ha=>absurd ha O);have hBD:R3.getD 14 0=((J s.d - p.SE.toNat:Nat):Int):=by rw[b3.bd];omega
 obtain⟨k4,R4,W4,g4,s4,o4,n4,l4,hold4⟩:=Uv.stack (B:=J s.d - p.SE.toNat) hp hV O O O (base:=14) (from_:=4) (word:=2) g3 ok.SP O hBD b3.z hold;have hBR:R4.getD 13 0=((J s.r - p.SG.toNat:Nat):Int):=by rw[s4 13 An,b3.br];omega
 obtain⟨k5,R5,W5,g5,s5,o5,n5,l5,hold5⟩:=Uv.stack (B:=J s.r - p.SG.toNat) hp hV O O O (base:=13) (from_:=20) (word:=3) g4 ok.SQ O hBR (by rw[s4 15 An,b3.z]) hold4;have hpos:k5=17+J (iT p pl):=by
  have hpre:C=(uT p e++iT p pl)++(tB p pl (17+J (iT p pl))++[⟨19,0,0,0,2⟩]):=by rw[hC2,hb];simp only[aq]
  have:=Uv.pos g5 cE hpre;rw[this,ar,hh17]
 have e1:W5.getD 1 0=s.flags:=by rw[o5 1 An O,o4 1 An O,ws3 1 An,w1]
 obtain⟨f1,f2,f3,f4⟩:=Uv.fin ok I hp hV g5 hpos cE O (by rw[s5 15 An,s4 15 An,b3.z]) hold5 e1 hf15;rw[hVe];exact⟨r1,by omega,r3,by omega,f1,f2,by grind,by grind,by omega,by omega,
  λi hi=>by rw[f4 (4+i) O O O,o5 (4+i) O O,o4 (4+i) O O,ws3 (4+i) O,RM s i O],
  λi hi=>by rw[f4 _ O O O,o5 _ O O,n4 i hi],
  λi hi=>by rw[f4 (20+i) O O O,o5 (20+i) O O,o4 (20+i) O O,ws3 (20+i) O,RL s i O],
  λi hi=>by rw[f4 _ O O O,n5 i hi],f3⟩
variable{n:Int}
variable{i:Nat}
variable{j:Nat}
section
variable{n:Nat}{op nn:Int}{s:St}{U:Uo}{d:Un}
theorem C6(h:dy op=true)(hw:s.wf)(hr:s.right=true)(hnn:u32 nn)(hU:Wg n U)(hd:d.ok):(Xs s op nn).s.wf/\(Xs s op nn).s.right=true:=by
 have hg:=px (op:=op) (nn:=nn) hw hr hnn hU hd;rw[(EV (n:=n) (nn:=nn) (U:=U) (d:=d) h hr).1]at hg;exact⟨hg.wf,hg.right⟩
end
theorem Fa{n:Nat}{U:Uo}{d:Un}(hU:Wg n U)(hdv:d.ok){D R:Li}{f0:Int}(hD:J D<=16)(hR:J R<=16):∀(l:List (Int×Int)) (s:St) (w:Lw) (q:Int×Lw),l≠[]->(∀i,i∈l->u32 i.2)->nB s.pc w l=some q->s.wf->s.right=true->
  LI D R w s.d s.r->FL D R f0 w s.flags->w.target= -1->w.branch=0->q.2.d.SK<=(J D:Int)->q.2.r.SK<=(J R:Int)->(J D:Int)+q.2.d.high<=16->(J R:Int)+q.2.r.high<=16->
  ∃s',IG l s s'/\s'.wf/\s'.right=true/\LI D R q.2 s'.d s'.r/\FL D R f0 q.2 s'.flags/\s'.pc=rF D R q.2 (l.getLastD (0,0)).1 (l.getLastD (0,0)).2 q.1 s'.flags/\Sw s s' (J l)/\(((l.getLastD (0,0)).1==32||(l.getLastD (0,0)).1==38)=true->q.2.branch=0)
 |[],_,_,_,hl,_,_,_,_,_,_,_,_,_,_,_,_=>absurd rfl hl
 |(op,nn)::l,s,w,q,hl,hu,h,hwf,hr,hli,hfl,htg,hbr,n1,n2,g1,g2=>by
  obtain⟨h1,h2,h3,h4⟩:=lX h;dsimp only at h1 h2 h3 h4;have hm:jQ (w.one op nn (dS s op)) q.2:=by
   have:∀(l:List (Int×Int)) (pc:Int) (w:Lw) (q:Int×Lw),nB pc w l=some q->jQ w q.2:=by
    intro l
    induction l with
    |nil=>intro pc w q h;obtain rfl:(pc,w)=q:=aG h;exact jQ.refl _
    |cons i l ih=>intro pc w q h;obtain⟨-,h2, -,h4⟩:=lX h;exact(AK h2 w _ _).trans (ih _ _ _ h4)
   exact this l _ _ q h4
  have hnn:u32 nn:=hu (op,nn) cE;obtain⟨s1,hs⟩:=one_ok (nn:=nn) h2 h1 hr hli hfl hD hR htg hbr (Int.le_trans hm.nd n1) (Int.le_trans hm.nr n2) (by have:=hm.hd;omega) (by have:=hm.hr;omega);have hgo:=C6 (nn:=nn) h2 hwf hr hnn hU hdv;rw[hs.did]at hgo;have hk1:Sw s s1 1:=hs.rest;cases l with
  |nil=>
   obtain rfl:(dS s op,w.one op nn (dS s op))=q:=aG h4;exact⟨s1,.cons h2 hr hs.did (λe=>absurd I e) (.nil s1),hgo.1,hgo.2,hs.li,hs.fl,hs.pc,hk1,λhe=>(by
    have he:(op==32||op==38)=true:=he;simp only[Bool.or_eq_true,beq_iff_eq]at he;rcases he with rfl|rfl<;>exact hbr)⟩
  |cons j l=>
   have he:=h3 cE;have hlt:=L4 h2 he;obtain⟨t1,b1⟩:=hs.going hlt;have hpc:s1.pc=dS s op:=hs.pc.trans (tG b1 t1 (by
    grind))
   have h4:nB s1.pc (w.one op nn (dS s op)) (j::l)=some q:=by rw[hpc];exact h4
   obtain⟨s',c1,c2,c3,c4,c5,c6,c7,c8⟩:=Fa hU hdv hD hR (j::l) s1 (w.one op nn (dS s op)) q cE (λi hi=>hu i (bo _ hi)) h4 hgo.1 hgo.2 hs.li hs.fl t1 b1 n1 n2 g1 g2;exact⟨s',.cons h2 hr hs.did (λ_=>⟨he,hpc⟩) c1,c2,c3,c4,c5,c6,hk1.trans c7,c8⟩
end Go.Ink
namespace Go.Ink
open List renaming length→J, replicate→R9
open IntKind renaming wrap→V9
open Go.RowKit Go.Proofs.Tryz
def vm(l:Li):Bool:=l.all λn=>decide (0<=n)&&decide (n<=16)
def Pg.Tv(p:Pg):Bool:=vm [p.SE,p.SG,p.Tc,p.Te]&&(!decide (p.count<1)&& !decide (8<p.count))
def Pg.SX(p:Pg):Bool:=p.Tv&&(jm p.SE p.SG p.code 0&&((p.SP.all λn=>sB n (J p.code))&&((p.SQ.all λn=>sB n (J p.code))&&p.Tu)))
theorem ui{p:Pg}(h:p.SX=true)(him:XR p.code)(hn:J p.code<=64)(hnx:u32 p.next)(htk:u32 p.taken):PgOk p (ge p)/\(p.branch≠0->p.target= -1)/\(p.flags= -1\/0<=p.flags)/\(p.target= -1\/0<=p.target):=by
 unfold Pg.SX Pg.Tv Pg.Tu vm at h;simp only[aC,Bool.not_eq_true',Bool.or_eq_true,aY,Bool.and_eq_false_iff,ah,aa,List.all_cons,List.all_nil,List.all_eq_true,beq_iff_eq,bne_eq_false_iff_eq,Bool.not_eq_false',sB]at h;obtain⟨⟨⟨d1,d2,d3,d4, -⟩,c1,c2⟩,hm,hoD,hoR,⟨hf,ht⟩,hb⟩:=h;have hok:XV p.SE p.SG p.code:=λn x hx=>by
  have:=xp p.code 0 hm n x hx;rw[bA]at this;exact made_ok this (him x (az hx))
 refine⟨⟨hok,λn x hx ho=>?_,λn hn=>⟨(hoD n hn).1,(hoD n hn).2,qh p (Or.inl hn) (hoD n hn)⟩,λn hn=>⟨(hoR n hn).1,(hoR n hn).2,qh p (Or.inr (Or.inl hn)) (hoR n hn)⟩,λh0=>?_,λh0=>?_,?_,hn,d1,d2,d3,d4,hnx,htk,by omega⟩,?_,?_,?_⟩
 .have hl:=(ap.1 hx).1;obtain⟨a,b⟩:=(hok n x hx).ab ho;exact KV p hx (by grind [lZ]) ⟨a.1,by omega⟩ ⟨b.1,by omega⟩
 .have hf:0<=p.flags/\p.flags<J p.code:=by rcases hf with e|e;omega;exact e
  exact⟨hf.2,qh p (Or.inr (Or.inr (Or.inl I))) hf⟩
 .have ht:0<=p.target/\p.target<J p.code:=by rcases ht with e|e;omega;exact e
  exact⟨ht.2,qh p (Or.inr (Or.inr (Or.inr I))) ht⟩
 .omega
 .omega
 .omega
 omega
variable{n:Int}
theorem Es{n:Nat}{U:Uo}{d:Un}(hU:Wg n U)(hdv:d.ok){s:St}(hwf:s.wf)(hr:s.right=true){l:List (Int×Int)}(hu:∀i,i∈l->u32 i.2){p:Pg}(hlow:fm s.pc l=some p)(hright:p.SX=true){M:HM}{f:Nat}
  (jU:jU (gh p (dR p)) f ⟨R9 16 0,Tm s,0⟩=((1,1),M)):
  IG l s (oO M.words s)/\(oO M.words s).wf/\(oO M.words s).right=true/\Sw s (oO M.words s) (J l)/\1<=J l/\J l<=8/\M.words.getD 2 0<=16/\M.words.getD 3 0<=16/\M.words.getD 1 0<=15:=by
 obtain⟨hd16,hr16, -⟩:=St.fits hr;unfold fm at hlow;cases hlen:decide ((J l:Int)<1)||decide (8<(J l:Int))with
 |true=>grind
 |false=>
 rw[hlen,ac]at hlow;simp only[aY,aa]at hlen;have hl0:l≠[]:=λe=>by grind
 cases hgo:nB s.pc Lw.init l with
 |none=>grind
 |some q=>
 rw[hgo]at hlow;obtain⟨nx,w⟩:=q;obtain rfl:=aG hlow;obtain⟨lk, -,hnx⟩:=tz l s.pc Lw.init _ hu hgo uC;have hnx:=hnx hl0;dsimp only at lk hnx;obtain⟨i,hi⟩:=Uk (l.getLastD (0,0));rw[hi]at hright jU;obtain⟨p0,hp0⟩:=Uk (yj nx w i (J l));rw[hp0]at hright jU;have f1:p0.code=w.code:=by rw[<-hp0];rfl
 have f2:p0.SP=w.d.l:=by rw[<-hp0];rfl
 have f3:p0.SQ=w.r.l:=by rw[<-hp0];rfl
 have f4:p0.flags=w.flags:=by rw[<-hp0];rfl
 have f5:p0.target=w.target:=by rw[<-hp0];rfl
 have f6:p0.branch=w.branch:=by rw[<-hp0];rfl
 have raw:Raw p0:=⟨by rw[f1];exact lk.wf,by rw[f1];exact lk.ops,by simp_all [lk.d],by simp_all [lk.r],by simp_all [lk.flags],by simp_all [lk.target]⟩;have g1:(cC p0).SE=w.d.SK:=by rw[<-hp0];rfl
 have g2:(cC p0).SG=w.r.SK:=by rw[<-hp0];rfl
 have g3:(cC p0).Tc=w.d.high:=by rw[<-hp0];rfl
 have g4:(cC p0).Te=w.r.high:=by rw[<-hp0];rfl
 have g5:(cC p0).next=bif i.1==32||i.1==38 then V9 .u32 (nx+jC i.2)else nx:=by rw[<-hp0];rfl
 have g6:(cC p0).taken=bif i.1==32||i.1==38 then 0 else bif w.branch !=0 then V9 .u32 (nx+jC i.2)else 0:=by rw[<-hp0];rfl
 have g7:(cC p0).branch=w.branch:=by rw[<-hp0];rfl
 have g8:(cC p0).count=J l:=by rw[<-hp0];rfl
 have hlen4:=uD l s.pc Lw.init _ hgo;have hlen5:J w.code<=32:=by have:J Lw.init.code=0:=rfl;dsimp only at hlen4;omega
 have hlen6:(cC p0).code.length<=64:=by
  exact Wq282
 have himc:XR (cC p0).code:=Bp (gj p0) p0.code 0 _ [] (λ_ h=>by cases h) (by rw[f1];exact lk.imm);have hn32:u32 (cC p0).next:=by rw[g5];cases i.1==32||i.1==38 with|true=>exact wu _|false=>exact hnx
 have ht32:u32 (cC p0).taken:=by
  have z:u32 0:=⟨by decide,by decide⟩;rw[g6];cases i.1==32||i.1==38 with
  |true=>exact z
  |false=>grind [wu]
 obtain⟨pok,pbt,pfl,ptg⟩:=ui hright himc hlen6 hn32 ht32;have hplan:Nm (dR (cC p0)) (ge (cC p0)) (cC p0).code.length:=Kb (λi hi=>KW (cC p0) hi) hlen6;have hgo2:Uv (gh (cC p0) (dR (cC p0))) 0 (gh (cC p0) (dR (cC p0))) (R9 16 0) (Tm s) M:=⟨List.drop_zero,by simp,ET s,f,jU⟩;have left:=PV pok hplan hr hwf hgo2;have li0:LI s.d s.r Lw.init s.d s.r:=⟨⟨Int.le_refl _,by show(0:Int)<=_;omega,by show s.d=s.d.take (J s.d - (0:Int).toNat)++[];simp,λ_ h=>by cases h⟩,⟨Int.le_refl _,by show(0:Int)<=_;omega,by show s.r=s.r.take (J s.r - (0:Int).toNat)++[];simp,λ_ h=>by cases h⟩⟩;have n1:=left.SE;have n2:=left.SG;have n3:=left.Tc;have n4:=left.Te;rw[g1]at n1;rw[g2]at n2;rw[g3]at n3;rw[g4]at n4;obtain⟨s',c1,c2,c3,c4,c5,c6,c7,c8⟩:=Fa hU hdv hd16 hr16 l s Lw.init (nx,w) hl0 hu hgo hwf hr li0 (Or.inl ⟨I,I⟩) I I n1 n2 n3 n4;rw[hi]at c6 c8;dsimp only at c4 c5 c6 c8;obtain⟨V,hV⟩:=Uk (Th s.d s.r (cC p0).code);have hmv:∀m,(m∈p0.SP\/m∈p0.SQ\/m=p0.flags\/m=p0.target)->II.in_ m w.code->0<=(eP p0).1.getD m.toNat 0/\V.getD ((eP p0).1.getD m.toNat 0).toNat 0=eB s.d s.r w.code m:=λm h1 h2=>by
  have h3:=Jv (D:=s.d) (R:=s.r) raw h1 Do;rw[f1]at h3;refine⟨h3.1.1,?_⟩;rw[<-hV];exact h3.2
 rw[hV]at left;have hoD:(cC p0).SP=dT (eP p0).1 w.d.l:=by rw[<-f2];rfl
 have hoR:(cC p0).SQ=dT (eP p0).1 w.r.l:=by rw[<-f3];rfl
 have hfl:(cC p0).flags=hI (eP p0).1 w.flags:=by rw[<-f4];rfl
 have htg:(cC p0).target=hI (eP p0).1 w.target:=by rw[<-f5];rfl
 have hc3:=c3;obtain⟨-, -,fl15⟩:=St.fits c3;have hfl0:=c2.flags;have eF:(cC p0).TT V s.flags=s'.flags:=by
  unfold Pg.TT;rw[hfl];rcases c5 with⟨q1,q2⟩|⟨q1,q2⟩
  .rw[q1];exact q2.symm
  have hne:w.flags≠ -1:=by have:=q1.1;omega
  have h3:=hmv w.flags O q1;unfold hI;rw[show(w.flags != -1)=true by grind,ae,ak h3.1,ae,h3.2,<-q2];have:=hfl0.1;omega
 have ePc:(cC p0).TG V s'.flags=s'.pc:=by
  rw[c6];unfold Pg.TG rF;rw[htg,g5,g6,g7];rw[htg]at ptg pbt;rw[g7]at pbt;by_cases ht:w.target= -1
  .grind [hI,eP,cZ]
  have hin:II.in_ w.target w.code:=by rcases lk.target with e|e;exact absurd e ht;exact e
  grind [hI,eP,cZ]
 have T1:(cC p0).SP.length=J w.d.l:=by rw[hoD];simp[dT]
 have lenR:(cC p0).SQ.length=J w.r.l:=by rw[hoR];simp[dT]
 have outsEq:∀(L:Li),(∀m,m∈L->(m∈p0.SP\/m∈p0.SQ\/m=p0.flags\/m=p0.target)/\II.in_ m w.code)->∀j,j<J L->V.getD ((dT (eP p0).1 L).getD j 0).toNat 0=(L.map (eB s.d s.r w.code)).getD j 0:=λL hL j hj=>by
  grind [dT,eP,eB]
 have hLD:∀m,m∈w.d.l->(m∈p0.SP\/m∈p0.SQ\/m=p0.flags\/m=p0.target)/\II.in_ m w.code:=λm hm=>⟨Or.inl Do,lk.d m hm⟩
 have hLR:∀m,m∈w.r.l->(m∈p0.SP\/m∈p0.SQ\/m=p0.flags\/m=p0.target)/\II.in_ m w.code:=λm hm=>⟨Or.inr (Or.inl Do),lk.r m hm⟩
 have eD:fM M.words 4 (M.words.getD 2 0).toNat=s'.d:=by
  rw[c4.d.eq];have a1:=left.T1;have a2:=left.lowD;have a3:=left.newD;rw[g1]at a1 a2 a3;rw[T1]at a1 a3;refine zI Do a2 (λj hj=>?_);have hj:j<J w.d.l:=by simpa using hj
  rw[a3 j hj,hoD];exact outsEq w.d.l hLD j hj
 have eR:fM M.words 20 (M.words.getD 3 0).toNat=s'.r:=by
  rw[c4.r.eq];have a1:=left.lenR;have a2:=left.lowR;have a3:=left.newR;rw[g2]at a1 a2 a3;rw[lenR]at a1 a3;refine zI Do a2 (λj hj=>?_);have hj:j<J w.r.l:=by simpa using hj
  rw[a3 j hj,hoR];exact outsEq w.r.l hLR j hj
 have eS:oO M.words s=s':=by
  unfold oO;have hk:s'=_:=c7;rw[left.pc,left.flags,left.count,eF,ePc,eD,eR,g8];rw[hk]
 have hfit1:=left.fitD;have hfit2:=left.fitR;have hw2:=left.T1;have hw3:=left.lenR;rw[eS];exact⟨c1,c2,c3,c7,by omega,by omega,by omega,by omega,by rw[left.flags,eF];omega⟩
section
variable{pl:Pl}{N:Nat}
theorem Hw{p:Pg}{T:Li}(ok:PgOk p T)(hN:N=J p.code)(hp:∀k:Nat,k<N->pl.has k):fY (gh p pl):=by
 subst hN;have hfl:=ok.flags;have htg:=ok.target;have h15:HI.TF ⟨1,15,0,0,0⟩:=kK An An;refine dV ?_ (cn (Bm An) dJ);unfold fB;obtain⟨e,he⟩:=Uk (V9 .u32 (J (fB p pl 0):Nat));have hee:=I6 (J (fB p pl 0):Nat);unfold fB at he hee;rw[he]at hee|-;cases p.Ty with
 |false=>exact cn h15 dJ
 |true=>
  cases p.TI with
  |false=>grind [cn,rq]
  |true=>
   have hflags:fY (gM p pl):=by
    unfold gM;by_cases h0:0<=p.flags
    .grind [cn,kK,dV,qm,fJ,vc,DB,u7,dJ]
    grind [dJ]
   have htarget:fY (jI p pl):=by
    unfold jI;by_cases h0:0<=p.target
    .grind [dV,qm,cn,Fu,vc,DB,dJ]
    grind [dJ]
   have hbranch:∀q,fY (iy p q):=λq=>by
    grind [iy,dJ,cn,yK,kK,Dw,fJ,DC,jO,I6,ok.taken]
   show fY (uT p e++(iT p pl++tB p pl (17+J (iT p pl))));refine dV (cn h15 (dV (rq hee An An) (rq hee An An))) (dV (dV (wX hp p.code 0 O (λi x hx=>by rw[bA];exact ok.code i x hx)) (dV (u6 hp An An (λn hn=>⟨(ok.SP n hn).1,(ok.SP n hn).2.1⟩)) (u6 hp An An (λn hn=>⟨(ok.SQ n hn).1,(ok.SQ n hn).2.1⟩)))) ?_)
   grind [tB,dV,cn,kK,ok.next,u7,I6,Bm,dJ]
end
end Go.Ink
namespace Go.Ink
open List renaming length→J, replicate→R9
open IntKind renaming wrap→V9
open Go.RowKit Go.Proofs.Tryz
section
open Go.MapKept
open Go.ChangeMaps (setBlock)
open Go.Maps (Keyed)
variable{b r:Nat}{L:List (Bool×Ky×Value)}{cur:Option (Ky×Value)}{w:World}
section
variable{C:Cx}{fr:Fr}{cs:List bH}{d:Option Nat}{T k e:TypeId}{x y z:Operand}{ty:TypeId}{pos:String}{af:Array Edge}{gd:Option (Nat×Bool)}{g:Bool}{v:Value}{b r:Nat}{L:List (Ky×Value)}{IL:List (Bool×Ky×Value)}{cur:Option (Ky×Value)}{q:Ky}{mk:bH->List bH}
theorem Co(hT:C.P.underlying T=some (.map k e)):Vx C ⟨d,.makeMap T none,ty,pos,af,gd⟩ fr cs false (λv cs'=>∃b,v= .map (some b)/\cs'=cs++[VG b []]):=λa w hf hi next Q h=>by
 have hr:(execOp a.eval ⟨d,.makeMap T none,ty,pos,af,gd⟩).run C.P w= .ok (.value (.map (some w.heap.size))) (w.alloc (.map #[] 0)):=by
  have:=run_makeMap (P:=C.P) T w;simp[execOp,this]
 unfold Oper.wp;rw[hr];refine h _ _ _ ⟨_,I,I⟩ (hi.more (nF (cX.Tx ((Below.refl _ _).alloc (aL _) _) _) (by simp[bH.bs]) ⟨#[],0,yG w _,stamped_empty 0,by simp,by simp⟩ λb hb=>?_)) (λ_=>zg.alloc w _)
 grind [bH.bs]
theorem t_mput(hx:ev fr x=some (.map (some b)))(hy:ev fr y=some (Vj q))(hz:ev fr z=some v)(hq:lA q)(hT:C.P.underlying T=some (.map k e))(hK:rQ C.P k)(hu:At cs (VG b L) mk):
  Vx C ⟨d,.mapUpdate T x y z,ty,pos,af,gd⟩ fr cs true (λu cs'=>u=undef/\cs'=mk (VG b (dP L q v))):=λa w hf hi next Q h=>by
 obtain⟨w',h1,h2,h3⟩:=put_run hT hK hq (hi.get hu.has) v;unfold Oper.wp;have hr:(execOp a.eval ⟨d,.mapUpdate T x y z,ty,pos,af,gd⟩).run C.P w= .ok .skip w':=by simp[execOp,hf.ev hx,hf.ev hy,hf.ev hz,h1]
 exact Wq436
theorem t_mdel(hx:ev fr x=some (.map (some b)))(hy:ev fr y=some (Vj q))(hq:lA q)(hT:C.P.underlying T=some (.map k e))(hK:rQ C.P k)(hu:At cs (VG b L) mk):
  Vx C ⟨d,.call {callee:= .builtin .delete,args:= #[x,y],argTypes:= #[T,k]},ty,pos,af,gd⟩ fr cs true (λu cs'=>u= .tuple #[]/\cs'=mk (VG b (p8 L q))):=λa w hf hi next Q h=>by
 obtain⟨w',h1,h2,h3⟩:=del_run hT hK hq (hi.get hu.has) ty;unfold Oper.wp;have hr:(execOp a.eval ⟨d,.call {callee:= .builtin .delete,args:= #[x,y],argTypes:= #[T,k]},ty,pos,af,gd⟩).run C.P w= .ok (.value (.tuple #[])) w':=by simp[execOp,resolve,invoke,builtin,hf.ev hx,hf.ev hy,h1]
 exact Wq436
theorem Ew(hx:ev fr x=some (.map (some b)))(hT:C.P.underlying T=some (.map k e))(hu:At cs (VG b L) mk):
  Vx C ⟨d,.range T x,ty,pos,af,gd⟩ fr cs true (λu cs'=>∃r,u= .p r/\cs'=mk (WG b r (L.map λx=>(false,x)) none)):=λa w hf hi next Q h=>by
 obtain⟨es,clock,hb,hs,hL,hok⟩:=(show nV b L w from hi.get hu.has);have hlt:b<w.heap.size:=(Array.getElem?_eq_some_iff.1 hb).1;have jU:=run_range_map (P:=C.P) w T k e b es clock hT hb;have hr:(execOp a.eval ⟨d,.range T x,ty,pos,af,gd⟩).run C.P w= .ok (.value (.p w.heap.size)) (w.alloc (.mapIter (some b) clock #[] clock)):=by
  simp[execOp,hf.ev hx,jU]
 have hk:cX [b] w (w.alloc (.mapIter (some b) clock #[] clock)):=cX.Tx ((Below.refl _ _).alloc (aL _) _) _;unfold Oper.wp;rw[hr];refine h _ _ _ ⟨_,I,I⟩ (hi.upd (hu _) hk (nF hk ?_ ⟨es,clock,clock,#[],clock,((MapKept.heap_alloc w _).2 b hlt).trans hb,hs,yG w _,hs.1,aL _,aL _,?_,?_,by omega,λ_ _ e=>by cases e⟩ λb' hb'=>?_)) (λe=>by cases e)
 .simp[bH.bs];omega
 .rw[List.map_map];have e1:=congrArg (List.map λp:Value×Value=>(false,p.1,p.2)) hL;simp only[List.map_map]at e1;have e2:(λe:MapEntry=>((#[]:Array Nat).contains e.born,e.key,e.val))=λe=>(false,e.key,e.val):=by funext e;simp
  rw[e2];exact e1
 .grind
 grind [bH.bs]
theorem Jr(hx:ev fr x=some (.p r))(hu:At cs (WG b r IL cur) mk):
  Vx C ⟨d,.next x false,ty,pos,af,gd⟩ fr cs true (λu cs'=>∃o:IF,RO IL o/\u= .tuple (G8 o).toArray/\cs'=mk (WG b r (Df IL o) (Kt o))):=λa w hf hi next Q h=>by
 obtain⟨o,w',h1,h2,h3,h4⟩:=OM (P:=C.P) (show zo b r IL cur w from hi.get hu.has) ty
 have hne:b≠r:=by obtain⟨_,_,_,_,_,_,_,_,_,_,_,_,_,hne,_⟩:=h4;exact hne
 have hr:(execOp a.eval ⟨d,.next x false,ty,pos,af,gd⟩).run C.P w= .ok (.value (.tuple (G8 o).toArray)) w':=by simp[execOp,hf.ev hx,h2]
 unfold Oper.wp;rw[hr];exact h _ _ _ ⟨o,h1,I,I⟩ (hi.upd (hu _) h3 (nF h3 (by grind [bH.bs]) h4 (λb hb=>Or.inl hb))) (λe=>by cases e)
theorem IS{o:IF}(hx:Ev fr g x (.tuple (G8 o).toArray)):UL C ⟨d,.extract x 0,ty,pos,af,gd⟩ fr g U4 (.bool o.isSome):=λa w hf _ hg=>by
 rcases o with _|⟨j,q,v⟩
 .simp[execOp,hx.eval hf hg,Instr.extract,G8]
 simp[execOp,hx.eval hf hg,Instr.extract,G8]
theorem IW(hx:Ev fr g x (.p r)):UL C ⟨d,.entry x,ty,pos,af,gd⟩ fr g (zo b r IL (some (q,v))) (.tuple #[Vj q,v]):=λa w hf hv hg=>by
 simp[execOp,hx.eval hf hg,L1 hv]
theorem Υ(hx:ev fr x=some (.map (some b)))(hy:ev fr y=some (Vj q))(hq:lA q)(hT:C.P.underlying T=some (.map k e))(hK:rQ C.P k)(hu:At cs (WG b r IL cur) mk):
  Vx C ⟨d,.call {callee:= .builtin .delete,args:= #[x,y],argTypes:= #[T,k]},ty,pos,af,gd⟩ fr cs true (λu cs'=>u= .tuple #[]/\cs'=mk (WG b r (vU IL q) none)):=λa w hf hi next Q h=>by
 obtain⟨w',h1,h2,h3⟩:=La hT hK hq (show zo b r IL cur w from hi.get hu.has) ty;have hne:b≠r:=by obtain⟨_,_,_,_,_,_,_,_,_,_,_,_,_,hne,_⟩:=h3;exact hne
 unfold Oper.wp;have hr:(execOp a.eval ⟨d,.call {callee:= .builtin .delete,args:= #[x,y],argTypes:= #[T,k]},ty,pos,af,gd⟩).run C.P w= .ok (.value (.tuple #[])) w':=by simp[execOp,resolve,invoke,builtin,hf.ev hx,hf.ev hy,h1]
 exact Wq428
theorem Τ{j:Nat}{f:Bool}{v0:Value}(hj:IL[j]? =some (f,q,v0))(hx:ev fr x=some (.map (some b)))(hy:ev fr y=some (Vj q))(hz:ev fr z=some v)(hT:C.P.underlying T=some (.map k e))(hK:rQ C.P k)(hu:At cs (WG b r IL cur) mk):
  Vx C ⟨d,.mapUpdate T x y z,ty,pos,af,gd⟩ fr cs true (λu cs'=>u=undef/\cs'=mk (WG b r (IL.set j (f,q,v)) none)):=λa w hf hi next Q h=>by
 obtain⟨w',h1,h2,h3⟩:=K9 hT hK (show zo b r IL cur w from hi.get hu.has) hj v;have hne:b≠r:=by obtain⟨_,_,_,_,_,_,_,_,_,_,_,_,_,hne,_⟩:=h3;exact hne
 unfold Oper.wp;have hr:(execOp a.eval ⟨d,.mapUpdate T x y z,ty,pos,af,gd⟩).run C.P w= .ok .skip w':=by simp[execOp,hf.ev hx,hf.ev hy,hf.ev hz,h1]
 exact Wq428
theorem Inv.itEnd{w0:World}{S:List Nat}{rest:List bH}(h:Inv w0 S (WG b r IL cur::rest) w):Inv w0 S (VG b (IL.map (·.2))::rest) w:=by
 have hm:nV b (IL.map (·.2)) w:=RW (show zo b r IL cur w from h.ok (WG b r IL cur) (List.mem_cons_self ..));have hn:=h.nodup;rw[dB]at hn;refine⟨h.S1,?_,λc hc=>?_,λx hx=>h.own x ?_⟩
 .rw[dB];exact(List.Sublist.append (show([b]:List Nat).Sublist [b,r]from(List.Sublist.slnil.cons r).cons_cons b) (aO _)).nodup hn
 .rcases aI.1 hc with rfl|hc
  .exact hm
  exact h.ok c (bo _ hc)
 grind [dB,bH.bs]
end
end
section
attribute [local irreducible] UL bM
theorem Lq(bm bw:Nat)(Ac:Oa)(cc:Nat)(C:List HI)(hC:fY C)(m:HM)(hm:m.ok):CI prog 243 [.p bm] (hmF bm bw Ac cc C m) (λx cs=>x= .i (SW C m).1/\cs=hmF bm bw Ac cc C (SW C m).2):=λw hi=>by
 have hR:=hm.rl;have hW:=hm.wl;have hr:=hm.r;have hwd:=hm.w;have hp0:=hm.pc;obtain⟨R,W,pc⟩:=m;dsimp only at hR hW hr hwd hp0;obtain⟨p,rfl⟩:∃p:Nat,pc=p:=ai hp0;have hi:Inv w (bK [fQ bm bw Ac (J C) cc R (p:Int),VL bw W,Wu Ac cc C]) [fQ bm bw Ac (J C) cc R (p:Int),VL bw W,Wu Ac cc C] w:=hi
 change Uz _ _ _ w [fQ bm bw Ac (J C) cc R (p:Int),VL bw W,Wu Ac cc C] _
 have hcap:=(de (hi.get (show UQ _ (Wu Ac cc C)from by repeat (first|exact .head _ _|apply UQ.tail)))).cap;have hmx:=(de (hi.get (show UQ _ (Wu Ac cc C)from by repeat (first|exact .head _ _|apply UQ.tail)))).max;have hsome:=λh=>(de (hi.get (show UQ _ (Wu Ac cc C)from by repeat (first|exact .head _ _|apply UQ.tail)))).some_ h
 simp only[maxLen]at hmx;have hS:(SW C ⟨R,W,(p:Int)⟩)=bif decide ((p:Int)<0)||decide ((J C:Int)<=(p:Int))then(2,⟨R,W,(p:Int)⟩)else V0 (C.getD p HI.zero) ⟨R,W,(p:Int)⟩:=rfl
 obtain⟨⟨why,m9⟩,hq⟩:=Uk (SW C ⟨R,W,(p:Int)⟩);rw[hq]at hS|-;refine UH func243 ntmps243 hi ?_;refine Ux ?_;refine B7 ?_;refine Ld 2 18 ?_;refine US 3 I (bL ir ne) (cO Zh (Yi hR)) ?_;refine ZE 4 ?_;refine ZE 5 ?_;refine ZF 6 ?_;refine ZF 7 ?_;refine τ 8 18 ?_;refine Yq 9 I (bU I I) (bL ir (cU I)) (cO Zh (Yi hR)) ?_;refine ZF 10 ?_;refine ZF 11 ?_;refine τ 12 17 ?_;refine Yq 13 I (bU I I) (bL ir (cU I)) (cO Zh (hm_c hR)) ?_;refine ZF 14 ?_;refine ZF 15 ?_;refine ZE 16 ?_;refine sR ?_;refine ZW ?_ ?_<;>intro hc1
 .rw[hc1,ae]at hS;obtain⟨rfl,rfl⟩:=Prod.mk.inj hS;refine Ux ?_;refine IM ?_;exact ff
 rw[hc1,ac]at hS;have hpl:p<J C:=Do;obtain⟨i,hx⟩:∃i,C[p]? =some i:=⟨_,aj hpl⟩;rw[show C.getD p HI.zero=i by grind]at hS;have hg:=hC i (az hx);obtain⟨ad,rfl⟩:=hsome O;obtain⟨rd1,rd2⟩:=hg.rd;obtain⟨ra1,ra2⟩:=hg.ra;obtain⟨rb1,rb2⟩:=hg.rb;obtain⟨im1,im2⟩:=hg.imm;obtain⟨op1,op2⟩:=hg.op;obtain⟨op,rd,ra,rb,im⟩:=i;dsimp only at rd1 rd2 ra1 ra2 rb1 rb2 im1 im2 op1 op2;obtain⟨rd,rfl⟩:∃k:Nat,rd=k:=ai rd1;obtain⟨ra,rfl⟩:∃k:Nat,ra=k:=ai ra1;obtain⟨rb,rfl⟩:∃k:Nat,rb=k:=ai rb1;have hd0:V0 ⟨op,(rd:Int),(ra:Int),(rb:Int),im⟩ ⟨R,W,(p:Int)⟩=(bif op==0 then(0,⟨R,W,(p:Int)+1⟩)else bif op==1 then(0,⟨R.set rd im,W,(p:Int)+1⟩)else bif op==14||op==15 then(bif decide ((J W:Int)<=V9 .u64 (R.getD ra 0+im))then(4,⟨R,W,(p:Int)⟩)else bif op==14 then(0,⟨R.set rd (W.getD (V9 .u64 (R.getD ra 0+im)).toNat 0),W,(p:Int)+1⟩)else(0,⟨R,W.set (V9 .u64 (R.getD ra 0+im)).toNat (V9 .u32 (R.getD rb 0)),(p:Int)+1⟩))else bif op==16||op==17 then(0,⟨R,W,bif(R.getD ra 0==0)==(op==16)then im else(p:Int)+1⟩)else bif op==18 then(0,⟨R,W,im⟩)else bif op==19 then(1,⟨R,W,(p:Int)⟩)else(0,⟨R.set rd (kJ op (R.getD ra 0) (R.getD rb 0)),W,(p:Int)+1⟩)):=rfl;rw[hd0,hW]at hS;have ea:=yk hr ra;have eb:=yk hr rb;obtain⟨a,hae⟩:=Uk (R.getD ra 0);obtain⟨b,hbe⟩:=Uk (R.getD rb 0);have hra:=hm_r (bw:=bw) (Ac:=some ad) (n:=J C) (cc:=cc) (pc:=(p:Int)) hR (show ra<16 by omega);have hrb:=hm_r (bw:=bw) (Ac:=some ad) (n:=J C) (cc:=cc) (pc:=(p:Int)) hR (show rb<16 by omega);rw[hae]at hS ea hra;rw[hbe]at hS eb hrb;have hpl2:V9 .u64 (a+im)=((V9 .u64 (a+im)).toNat:Nat):=(by rw[aS];omega);obtain⟨pl,hple⟩:∃k:Nat,(V9 .u64 (a+im)).toNat=k:=⟨_,I⟩;rw[hple]at hpl2;rw[hpl2,aP]at hS;refine Us ?_;refine bN (UK [11]) Zk (mW ?_);refine Ld 2 17 ?_;refine US 3 I (bL ir ne) (cO Zh (hm_c hR)) ?_;refine ZE 4 ?_;refine ZE 5 ?_;refine Ld 6 18 ?_;refine US 7 I (bL ir ne) (cO Zh (Yi hR)) ?_;refine UF 8 I (cW (j:=p) I ir (Zv I) (Zv I) Uq Uq) ?_;refine US 9 I (cj (vs:=[.i op,.i rd,.i ra,.i rb,.w im]) ir ir ne) (JC Zh (λj v hj=>fK (f:=HI.cells) ir (i:=j) hx hj)) ?_;refine mh ?_;refine ZP λb3=>?_
 refine cQ 11 Zk (ZR ?_);refine pI ?_;refine sS ?_;refine ZE 0 ?_;refine Ld 1 2 ?_;refine ZG 2 ?_;refine ZE 3 ?_;refine Ld 4 0 ?_;refine UF 5 I (dc (j:=ra) (sz:=1) (r:=ra) I ir (Zv I) (Zv I) Uq Uq O) ?_;refine US 6 I (bL ir ne) (cO Zh hra) ?_;refine ZE 7 ?_;refine Ld 8 3 ?_;refine ZG 9 ?_;refine ZE 10 ?_;refine Ld 11 0 ?_;refine UF 12 I (dc (j:=rb) (sz:=1) (r:=rb) I ir (Zv I) (Zv I) Uq Uq O) ?_;refine US 13 I (bL ir ne) (cO Zh hrb) ?_;refine ZE 14 ?_;refine ZE 15 ?_;refine fe ?_;refine UA ?_;refine pG ?_;refine Zy (dr ne ne hpl2) ?_;refine UG ?_;refine dW (bL ir ne) (cO Zh (Yi hR)) I (mT ?_);refine vY ?_;refine ZW ?_ ?_<;>intro hc9
 .rw[hc9,ae]at hS;exact Yu
 rw[hc9,ac]at hS;refine Ul ?_ ?_<;>intro hc10
 .rw[hc10,ae]at hS;obtain⟨rfl,rfl⟩:=Prod.mk.inj hS;refine bN (UK [9]) Zk (Il ?_);refine Ld 3 4 ?_;refine ZG 4 ?_;refine UF 5 I (cA I I (Zv I) XN) ?_;refine ZE 6 ?_;refine Ld 7 0 ?_;refine UF 8 I (dc (j:=rd) (sz:=1) (r:=rd) I ir (Zv I) (Zv I) Uq Uq O) ?_;refine kO ?_;exact ι
 rw[hc10,ac]at hS;refine Vl ?_ ?_<;>intro hc12
 .rw[show(op==14||op==15)=true from by grind,ae]at hS;refine py ?_;refine bV I (hc12) (Ux ?_);refine dW (bL ir ne) (cO Zh (Nr hR)) I (ZA ?_);refine pG ?_;refine Vs ?_ ?_<;>intro hc14
  .exact Wx82_
  rw[hc14,ac]at hS;have hp256:pl<256:=(by simp at hc14;omega);have hxw:W[pl]? =some (W.getD pl 0):=(by rw[aM,aj O];rfl);have hwb:=iI hwd pl;obtain⟨x,hxe⟩:=Uk (W.getD pl 0);rw[hxe]at hxw hwb hS;refine VM ?_ ?_<;>intro hc16
  .exact Wx42_
  exact Wx46_
 refine VQ ?_ ?_<;>intro hc13
 .rw[show(op==14||op==15)=true from by grind,ae]at hS;refine Ux ?_;refine dW (bL ir ne) (cO Zh (Nr hR)) I (ZA ?_);refine pG ?_;refine Vs ?_ ?_<;>intro hc14
  .exact Wx82_
  rw[hc14,ac]at hS;have hp256:pl<256:=(by simp at hc14;omega);have hxw:W[pl]? =some (W.getD pl 0):=(by rw[aM,aj O];rfl);have hwb:=iI hwd pl;obtain⟨x,hxe⟩:=Uk (W.getD pl 0);rw[hxe]at hxw hwb hS;refine VM ?_ ?_<;>intro hc16
  .exact Wx42_
  exact Wx46_
 rw[show(op==14||op==15)=false from by grind,ac]at hS;refine Vl ?_ ?_<;>intro hc19
 .rw[show(op==16||op==17)=true from by grind,ae]at hS;refine py ?_;refine bV I (hc19) (oI ?_ ?_)<;>intro hc21
  .rw[hc21,ae]at hS;exact YV
  rw[hc21,ac]at hS;exact Yu
 refine VQ ?_ ?_<;>intro hc20
 .rw[show(op==16||op==17)=true from by grind,ae]at hS;refine oI ?_ ?_<;>intro hc21
  .rw[hc21,ae]at hS;exact YV
  rw[hc21,ac]at hS;exact Yu
 rw[show(op==16||op==17)=false from by grind,ac]at hS;refine Ul ?_ ?_<;>intro hc23
 .rw[hc23,ae]at hS;exact YV
 rw[hc23,ac]at hS;refine Ul ?_ ?_<;>intro hc25
 .rw[hc25,ae]at hS;obtain⟨rfl,rfl⟩:=Prod.mk.inj hS;refine UG ?_;refine IM ?_;exact ff
 rw[hc25,ac]at hS;obtain⟨rfl,rfl⟩:=Prod.mk.inj hS;refine bN (UK [11]) Zk (Il ?_);refine Ld 3 0 ?_;refine BX ?_;refine ZE 8 ?_;refine Ld 9 0 ?_;refine iW ?_;refine VF (λw hi=>Hs op a b ea eb w) ?_;refine Uw ?_;refine UF 10 I (dc (j:=rd) (sz:=1) (r:=rd) I ir (Zv I) (Zv I) Uq Uq O) ?_;exact cQ 11 Zk ι
variable{s:St}
theorem Ox(h:s.wf)(hr:s.right=true):VO (Tm s):=by
 obtain⟨h1,h2, -⟩:=St.fits hr;have hset:∀(W:Li) (k:Nat) (v:Int),VO W->(0<=v/\v<=4294967295)->VO (W.set k v):=λW k v hW hv x hx=>by
  rcases Dm hx with q|q
  .exact hW x q
  omega
 have hlay:∀(W:Li) (f:Nat) (l:Li),VO W->VO l->∀k,VO (j7 W f l k):=λW f l hW hl k=>by
  induction k with
  |zero=>exact hW
  |succ k ih=>exact hset _ _ _ ih (iI hl k)
 have h0:VO (R9 256 (0:Int)):=λx hx=>by grind
 have hd:VO s.d:=λx hx=>h.d x hx
 have hrr:VO s.r:=λx hx=>h.r x hx
 have a1:=hset _ 0 s.pc h0 h.pc;have a2:=hset _ 1 s.flags a1 h.flags
 grind [Tm]
theorem hm0_of{R W:Li}(h0:J R=16)(h1:J W=256)(h2:r64 R)(h3:VO W):HM.ok ⟨R,W,0⟩:=⟨h0,h1,h2,h3,Int.le_refl _⟩
theorem hm0_ok(h:s.wf)(hr:s.right=true):HM.ok ⟨R9 16 0,Tm s,0⟩:=
 hm0_of aB (ET s) (λx hx=>by grind) (Ox h hr)
end
end Go.Ink
