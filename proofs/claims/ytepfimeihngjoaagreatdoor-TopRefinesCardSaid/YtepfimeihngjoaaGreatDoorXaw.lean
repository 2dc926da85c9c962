/- Lemmas. -/
import Derived.Test.YtepfimeihngjoaaGreatDoorXap
import Derived.Test.YtepfimeihngjoaaGreatDoorXaq
import Derived.Test.YtepfimeihngjoaaGreatDoorXar
import Derived.Test.YtepfimeihngjoaaGreatDoorXas
set_option linter.all false
set_option maxRecDepth 100000
set_option maxHeartbeats 4000000
namespace Go.Ink
open List renaming length→J
open IntKind renaming wrap→V9
open Go.RowKit Go.Proofs.Tryz
variable{x:Nat}
variable{m:Int}
variable{n:Nat}{s:St}{U:UI}{d:UF}
variable{s1:St}
variable{k:Nat}
section
attribute [local irreducible] Ve bN
section
variable{n:Nat}{U:UI}{d:UF}{M:UO}{R:UG}
theorem wN(h:d.lines)(k:Int)(v:Nat):(bU n M d k v).2.2.lines:=by
 have hz:0<=bits .and .u32 (v:Int) 255/\bits .and .u32 (v:Int) 255<=255:=by
  obtain⟨x,hx,hlt⟩:=Nd (p:=(v:Int)) (m:=255) ⟨by decide,by decide⟩;omega
 unfold bU dp;refine bL (λq:Bool×UO×UF=>q.2.2.lines) ⟨h.mask⟩ ?_;refine bL (λq:Bool×UO×UF=>q.2.2.lines) ⟨hz⟩ ?_;refine Wq182 ?_;refine bL (λq:Bool×UO×UF=>q.2.2.lines) ⟨h.mask⟩ ?_;refine bL (λq:Bool×UO×UF=>q.2.2.lines) ⟨h.mask⟩ ?_
 repeat (refine bL (λq:Bool×UO×UF=>q.2.2.lines) h ?_)
 exact h
theorem G3(h:d.lines)(va v:Nat):(eZ n R U d va v).d.lines:=by
 unfold eZ;refine IW ?_;exact bL (λm:eu=>m.d.lines) (wN h _ _) h
end
section
variable{n:Nat}{s:St}{U:UI}{d:UF}
theorem kE(h:VN n s U d):BegOk n s d (cI n s U d):=by
 obtain⟨t1,t2⟩:=Ot h.dv s.count;have t3:=oh h.lines s.count;obtain⟨w1,w2,w3,w4⟩:=JV (s:=s) (d:=d.tick s.count) h.wf h.right;cases hh:s.halted with
 |true=>
  rw[rT (by rw[hh,bA])];exact⟨h,u0,I,λe=>(by cases e),λ_ e=>(by rw[hh]at e;cases e),λ_=>I⟩
 |false=>
  rw[rU (by rw[h.right,hh];rfl) rfl rfl];rw[hh]at w4;obtain⟨s1,hs1⟩:=Do (told s (d.tick s.count));rw[hs1]at w1 w2 w3 w4|-;unfold lI;have hpc:s1.pc.toNat<=4294967295:=by have:=w1.pc;unfold u32 at this;omega
  have p1:=pD h.u s1.space s1.pc.toNat 1;obtain⟨p2, -⟩:=fj n U s1.space s1.pc.toNat hpc 1;have p3:=ry n U s1.space s1.pc.toNat hpc 1;obtain⟨⟨⟨pl,⟨tc,ta⟩⟩,U1⟩,hq⟩:=Do (SR n U s1.space s1.pc.toNat 1);rw[hq]at p1 p2 p3|-;dsimp only at p1 p2 p3|-;cases htc:(tc !=0)with
  |true=>
   rw[ah];exact⟨⟨JP (Se w1) _ p3.1,w2,p1,t1,t3⟩,u0,t2,λe=>(by cases e),λ_ _=>⟨by show V9 .u64 (s1.count+1)=_;rw[w3],w4⟩,λe=>(by rw[hh]at e;cases e)⟩
  |false=>
   rw[ac];exact⟨⟨w1,w2,p1,t1,t3⟩,p2,t2,λ_=>⟨w3,w4.trans hh.symm,hh⟩,λe=>(by cases e),λe=>(by rw[hh]at e;cases e)⟩
end
abbrev WH(bu bb:Nat)(L:fF)(D:qV)(s:St)(X:dz)(Y:dJ)(U:UI)(d:UF):List bJ:=Vf s X.Ad X.cd::Vj s X.Ar X.cr::VK bu bb L D Y U d
end
end Go.Ink
namespace Go.Ink
open List renaming length→J
open IntKind renaming wrap→V9
open Go.RowKit
theorem Bz{op:Int}(hp:dD op=true)(w:Lw)(n nx:Int):j7 w (w.one op n nx):=by
 refine j7.trans ?_ (JT _);have hs:j7 w w.S0.2.S0.2:=(kA w).trans (kA w.S0.2);rcases qm hp with rfl|rfl|rfl|rfl|rfl|rfl|rfl|rfl|rfl|hr|hr|rfl|hr|rfl|rfl|rfl
 .exact NL
 .exact NL
 .exact NL
 .exact Rg
 .exact Rg
 .exact Ya
 .exact Ya
 .exact Rg
 .exact⟨(iP w).nd,(iP w).nr,(iP w).hd,(iP w).hr⟩
 .refine Y9 ?_;exact Ya
 .rw[qx (Or.inr hr)];subst hr;exact Ya
 .exact NL
 .have h5:op=33\/op=34\/op=35\/op=36\/op=37:=by omega
  rcases h5 with rfl|rfl|rfl|rfl|rfl<;>exact⟨(j7.refl w).nd,(j7.refl w).nr,(j7.refl w).hd,(j7.refl w).hr⟩
 .exact NL
 .exact⟨(iP w).nd,(iP w).nr,(iP w).hd,(iP w).hr⟩
 exact Rg
variable{a:Nat}
variable{b:Nat}
section
variable{R:Li}{D Rr:Li}{SW SZ:Int}
variable{x:II}{n:Nat}
theorem JD{V V':Li}(hx:x.ok SW SZ n)(h:∀a:Nat,a<n->V.getD a 0=V'.getD a 0):lz D Rr V x=lz D Rr V' x:=by
 have hop:=hx.op;have hab:=hx.ab;obtain⟨op,dst,a,b,imm⟩:=x;dsimp only at hop hab;rcases hop with rfl|⟨rfl, -⟩|⟨rfl, -⟩|⟨rfl, -⟩|⟨rfl, -⟩
 .rfl
 .rfl
 .rfl
 .obtain⟨h1,h2⟩:=hab (Or.inl I);show(hI imm (V.getD a.toNat 0) (V.getD b.toNat 0)).1=(hI imm (V'.getD a.toNat 0) (V'.getD b.toNat 0)).1
  grind
 obtain⟨h1,h2⟩:=hab (Or.inr I);show(hI imm (V.getD a.toNat 0) (V.getD b.toNat 0)).2.1=(hI imm (V'.getD a.toNat 0) (V'.getD b.toNat 0)).2.1
 grind
variable{pre suf:List II}
theorem Yp.app(h:Yp SW SZ (pre++suf)):Yp SW SZ pre:=λn x hx=>h n x bZ
theorem Oh{V:Li}(hx:x.ok SW SZ n)(hD:We D)(hR:We Rr)(hV:We V):0<=lz D Rr V x/\lz D Rr V x<=4294967295:=by
 have hop:=hx.op;have hi:=hx.imm;obtain⟨op,dst,a,b,imm⟩:=x;dsimp only at hop hi;obtain⟨x,hx1,hx2⟩:=nj hV a.toNat;obtain⟨y,hy1,hy2⟩:=nj hV b.toNat;rcases hop with rfl|⟨rfl, -⟩|⟨rfl, -⟩|⟨rfl,h1⟩|⟨rfl,h1⟩
 .exact hi
 .exact iY hD _
 .exact iY hR _
 .show 0<=(hI imm (V.getD a.toNat 0) (V.getD b.toNat 0)).1/\(hI imm (V.getD a.toNat 0) (V.getD b.toNat 0)).1<=4294967295;obtain⟨r,hr,hr2⟩:=uc (Or.inl h1) hx2 hy2
  grind [hI,wC]
 show 0<=(hI imm (V.getD a.toNat 0) (V.getD b.toNat 0)).2.1/\(hI imm (V.getD a.toNat 0) (V.getD b.toNat 0)).2.1<=4294967295;rw[hx1,hy1];have:=Ms hx2 hy2 h1;omega
theorem Og(code:List II)(hD:We D)(hR:We Rr)(h:Yp SW SZ code):We (Tv D Rr code):=by
 revert h;refine yH (p:=λcode=>Yp SW SZ code->We (Tv D Rr code)) (λ_ x hx=>by cases hx) (λl x ih h=>?_) code;rw[lT];intro y hy;rcases aJ.1 hy with h1|h1
 .exact ih h.app y h1
 rw[aX.1 h1];exact Oh h.last hD hR (ih h.app)
theorem vals_at(h:Yp SW SZ (pre++x::suf)):(Tv D Rr (pre++x::suf)).getD (J pre) 0=lz D Rr (Tv D Rr (pre++x::suf)) x:=by
 have h2:pre++x::suf=(pre++[x])++suf:=by simp
 rw[h2]at h|-;obtain⟨m,hm⟩:=ER (D:=D) (R:=Rr) (pre++[x]) suf;have e1:J (Tv D Rr (pre++[x]))=J pre+1:=by rw[tN];simp
 have e0:J (Tv D Rr pre)=J pre:=tN _;have e2:∀a:Nat,a<J pre->(Tv D Rr pre).getD a 0=(Tv D Rr ((pre++[x])++suf)).getD a 0:=λa ha=>by
  grind [lT]
 rw[<-JD (Yp.last (Yp.app h)) e2,hm,lT]
 grind
end
end Go.Ink
namespace Go.Ink
open List renaming length→J, replicate→R9
open IntKind renaming wrap→V9
open Go.RowKit
section
variable{C l:List HI}{k:Nat}{R W:Li}{M:HM}{pl:Pl}{T V:Li}{N:Nat}
structure PgOk(p:Pg)(T:Li):Prop where
 code:Yp p.SW p.SZ p.code
 uses:∀(n:Nat) (x:II),p.code[n]? =some x->x.op=3\/x.op=4->(n:Int)<=T.getD x.a.toNat 0/\(n:Int)<=T.getD x.b.toNat 0
 S9:∀n,n∈p.S9->0<=n/\n<J p.code/\(J p.code:Int)<=T.getD n.toNat 0
 Ta:∀n,n∈p.Ta->0<=n/\n<J p.code/\(J p.code:Int)<=T.getD n.toNat 0
 flags:0<=p.flags->p.flags<J p.code/\(J p.code:Int)<=T.getD p.flags.toNat 0
 target:0<=p.target->p.target<J p.code/\(J p.code:Int)<=T.getD p.target.toNat 0
 branch:p.branch=0\/(33<=p.branch/\p.branch<=37)
 n64:J p.code<=64
 SW:0<=p.SW/\p.SW<=16
 SZ:0<=p.SZ/\p.SZ<=16
 Tw:0<=p.Tw/\p.Tw<=16
 Tx:0<=p.Tx/\p.Tx<=16
 next:0<=p.next/\p.next<=4294967295
 taken:0<=p.taken/\p.taken<=4294967295
 count:1<=p.count/\p.count<=8
theorem UP.fin{p:Pg}{pos:Nat}{f0:Int}(ok:PgOk p T)(hN:N=J p.code)(hp:NU pl T N)(hV:We V)(h:UP C k (tY p pl pos++l) R W M)(hk:k=pos)(hl:l≠[])(hps:pos<=10000)(h15:R.getD 15 0=0)(hh:GD pl T V N R W)(h1:W.getD 1 0=f0)(hf0:0<=f0/\f0<=15):
  M.words.getD 0 0=p.TW V (p.Ua V f0)/\M.words.getD 1 0=p.Ua V f0/\M.words.getD 36 0=p.count/\∀i,i≠0->i≠1->i≠36->M.words.getD i 0=W.getD i 0:=by
 subst hN;have hfl:=ok.flags;have htg:=ok.target;have hbr:=ok.branch;have hnx:=ok.next
 have htk:=ok.taken;have hct:=ok.count;have hC:C=C.take k++(tY p pl pos++l):=by rw[<-h.at_];exact(List.take_append_drop k C).symm
 obtain⟨rest,hrest⟩:∃rest,rest=jW p pl++(⟨15,0,15,9,0⟩::⟨1,11,0,0,V9 .u32 p.count⟩::⟨15,0,15,11,36⟩::⟨19,0,0,0,1⟩::l):=⟨_,I⟩;have e1:tY p pl pos++l=gY p pl++(⟨1,9,0,0,p.next⟩::(iJ p (pos+J (gY p pl)+1)++rest)):=by
  rw[hrest];unfold tY;simp
 have hkl:J C=k+J (tY p pl pos++l):=by
  have h2:=h.at_;have h3:=congrArg List.length h2;rw[List.length_drop]at h3;have h4:0<J (tY p pl pos++l):=by rw[ar];have:=List.length_pos_iff.2 hl;omega
  omega
 rw[e1]at h hkl;obtain⟨k1,R1,W1,g1,g2,g3,g4⟩:=UP.flagsEnd hp hV h h15 hh hfl h1;have a1:=UP.li (rd:=9) g1;have hf:0<=p.Ua V f0/\p.Ua V f0<=15:=by
  unfold Pg.Ua;cases decide (0<=p.flags)with
  |true=>grind
  |false=>exact hf0
 have hrl:=h.rl;have hfle:J (gY p pl)<=5:=by
  unfold gY;cases decide (0<=p.flags)with
  |false=>grind
  |true=>
   grind [kr]
 obtain⟨k2,R2,b1,b2,b3⟩:=UP.UD (pos:=pos+J (gY p pl)+1) a1 (λhb=>by
   have h5:k1+1=_:=rfl;have h6:=congrArg List.length a1.at_
   grind) O (by rw[cM ne,g2 15 ne,h15]) hf g3 (de (by rw[g1.rl];decide)) hbr
 have h15':R2.getD 15 0=0:=by rw[b3 15 ne,cM ne,g2 15 ne,h15]
 have hold2:GD pl T V (J p.code) R2 W1:=hh.mono hp (λj hj=>by rw[b3 j ig,cM O,g2 j ig]) (λj hj=>g4 j O);have tgt:∃k3 R3,UP C k3 (⟨15,0,15,9,0⟩::⟨1,11,0,0,V9 .u32 p.count⟩::⟨15,0,15,11,36⟩::⟨19,0,0,0,1⟩::l) R3 W1 M/\R3.getD 9 0=p.TW V (p.Ua V f0)/\R3.getD 15 0=0:=by
  rw[hrest]at b1;unfold jW at b1;unfold Pg.TW;by_cases hd:0<=p.target
  .rw[ap hd]at b1|-;have b1:UP C k2 (kr pl p.target 7++(⟨2,9,eQ pl p.target 7,0,0⟩::(⟨15,0,15,9,0⟩::⟨1,11,0,0,V9 .u32 p.count⟩::⟨15,0,15,11,36⟩::⟨19,0,0,0,1⟩::l))) R2 W1 M:=by
    rw[ah,aw]at b1;exact b1
   obtain⟨k3,R3,r,c1,c2,c3,c4,c5⟩:=UP.take7 hp hV b1 h15' hold2 ⟨hd,(htg hd).1,(htg hd).2⟩;rw[c2]at c1;have c6:=UP.mov (rd:=9) (ra:=r) c1;rw[c4]at c6;exact⟨_,_,c6,de (by rw[c1.rl];decide),by rw[cM ne,c5 15 ne,h15']⟩
  grind
 obtain⟨k3,R3,d1,d2,d3⟩:=tgt;have hpc:0<=p.TW V (p.Ua V f0)/\p.TW V (p.Ua V f0)<=4294967295:=by
  unfold Pg.TW;cases decide (0<=p.target)with
  |true=>exact iY hV _
  |false=>grind
 have hl3:=d1.rl;have hw3:=d1.wl;have x1:=UP.st (ra:=15) (rb:=9) (p:=0) (v:=p.TW V (p.Ua V f0)) d1 (by rw[d3];rfl) ne (by grind [IntKind.wrap_u32]);have x2:=UP.li (rd:=11) x1;have x3:=UP.st (ra:=15) (rb:=11) (p:=36) (v:=p.count) x2 (by rw[cM ne,d3];rfl) ne (by grind [de,IntKind.wrap_u32]);have x4:=UP.exit x3
 grind
end
structure Left(p:Pg)(V:Li)(s:St)(W:Li):Prop where
 SW:p.SW<=J s.d
 Tw:(J s.d:Int)+p.Tw<=16
 SZ:p.SZ<=J s.r
 Tx:(J s.r:Int)+p.Tx<=16
 pc:W.getD 0 0=p.TW V (p.Ua V s.flags)
 flags:W.getD 1 0=p.Ua V s.flags
 Un:W.getD 2 0=((J s.d - p.SW.toNat+J p.S9:Nat):Int)
 lenR:W.getD 3 0=((J s.r - p.SZ.toNat+J p.Ta:Nat):Int)
 fitD:J s.d - p.SW.toNat+J p.S9<=16
 fitR:J s.r - p.SZ.toNat+J p.Ta<=16
 lowD:∀i,i<J s.d - p.SW.toNat->W.getD (4+i) 0=s.d.getD i 0
 newD:∀i,i<J p.S9->W.getD (4+(J s.d - p.SW.toNat)+i) 0=V.getD (p.S9.getD i 0).toNat 0
 lowR:∀i,i<J s.r - p.SZ.toNat->W.getD (20+i) 0=s.r.getD i 0
 newR:∀i,i<J p.Ta->W.getD (20+(J s.r - p.SZ.toNat)+i) 0=V.getD (p.Ta.getD i 0).toNat 0
 count:W.getD 36 0=p.count
variable{T:Li}{pl:Pl}
theorem Qk{p:Pg}{s:St}{M:HM}(ok:PgOk p T)(hp:NU pl T (J p.code))(hs:s.right=true)(hw:s.wf)(h:UP (gC p pl) 0 (gC p pl) (R9 16 0) (TB s) M):
  Left p (Tv s.d s.r p.code) s M.words:=by
 obtain⟨hd16,hr16, -⟩:=St.fits hs;have hf15:0<=s.flags/\s.flags<=15:=⟨hw.flags.1,by grind [St.right]⟩;have hD:We s.d:=λx hx=>hw.d x hx
 have hR:We s.r:=λx hx=>hw.r x hx
 have hV:We (Tv s.d s.r p.code):=Og p.code hD hR ok.code;obtain⟨w0,w1,w2,w3⟩:=O4 s;obtain⟨e,he⟩:=Do (J (fU p pl 0));have hnd:=ok.SW;have hnr:=ok.SZ;have hhd:=ok.Tw;have hhr:=ok.Tx;cases hrd:p.TR with
 |false=>
  have hb:∀e,fU p pl e=[⟨1,15,0,0,0⟩]:=λe=>by grind [fU]
  unfold gC at h;rw[hb]at h;have:=(UP.exit (UP.li (rd:=15) h)).1;cases this
 |true=>
 have hmD:p.SW<=p.T5:=by unfold Pg.TR at hrd;simp at hrd;exact hrd
 have hmD2:=BD (S2:=p.SW) (high:=p.Tw) (out:=J p.S9);have hmD3:=BE (S2:=p.SW) (high:=p.Tw) (out:=J p.S9) hnd hhd;have hmD0:p.T5=ji p.SW p.Tw (J p.S9):=rfl;cases hrr:p.TZ with
 |false=>
  have hb:∀e,fU p pl e=⟨1,15,0,0,0⟩::qj e 14 2 p.SW p.T5:=λe=>by grind [fU]
  have h9:V9 .u32 (J (fU p pl 0):Nat)=((9:Nat):Int):=by rw[hb];rfl
  unfold gC at h;rw[h9,hb]at h;have g:=UP.li (rd:=15) h;obtain⟨-, -,k',R',g1, -⟩:=UP.room (base:=14) (word:=2) (n:=J s.d) (e:=9) (l:=[⟨19,0,0,0,2⟩]) (by exact g) O O (de cJ) (by rw[w2]) hd16 hnd O rfl;have:=(UP.exit g1).1;cases this
 |true=>
 have hmR:p.SZ<=p.Um:=by unfold Pg.TZ at hrr;simp at hrr;exact hrr
 have hmR2:=BD (S2:=p.SZ) (high:=p.Tx) (out:=J p.Ta);have hmR3:=BE (S2:=p.SZ) (high:=p.Tx) (out:=J p.Ta) hnr hhr;have hmR0:p.Um=ji p.SZ p.Tx (J p.Ta):=rfl;have hoD:J p.S9<=16:=by omega
 have hoR:J p.Ta<=16:=by omega
 have hb:∀e,fU p pl e=vz p e++(jc p pl++tY p pl (17+J (jc p pl))):=λe=>by grind [fU]
 have hwl:=work_le (pl:=pl) ok.n64 hoD hoR;have hel:=endL_le (pl:=pl) p (17+J (jc p pl));have hh17:∀e,J (vz p e)=17:=λe=>I
 have hbl:J (fU p pl 0)=17+(J (jc p pl)+J (tY p pl (17+J (jc p pl)))):=by rw[hb,ar,ar,hh17]
 have hwr:V9 .u32 (J (fU p pl 0):Nat)=(e:Int):=by rw[he,au];omega
 obtain⟨C,hC⟩:=Do (gC p pl);rw[hC]at h;have hC2:C=fU p pl (e:Int)++[⟨19,0,0,0,2⟩]:=by rw[<-hC];unfold gC;rw[hwr]
 have hCe:C.drop e=[⟨19,0,0,0,2⟩]:=by
  rw[hC2,List.drop_append_of_le_length bZ,List.drop_eq_nil_of_le bZ];rfl
 have hC3:C=⟨1,15,0,0,0⟩::(qj e 14 2 p.SW p.T5++(qj e 13 3 p.SZ p.Um++(jc p pl++(tY p pl (17+J (jc p pl))++[⟨19,0,0,0,2⟩])))):=by
  rw[hC2,hb];unfold vz;simp
 have h1:UP C 0 (⟨1,15,0,0,0⟩::(qj e 14 2 p.SW p.T5++(qj e 13 3 p.SZ p.Um++(jc p pl++(tY p pl (17+J (jc p pl))++[⟨19,0,0,0,2⟩]))))) (R9 16 0) (TB s) M:=⟨by grind,h.rl,h.wl,h.ends⟩;have g0:=UP.li (rd:=15) h1;obtain⟨r1,r2,k1,R1,g1,b1,s1⟩:=UP.room (base:=14) (word:=2) (n:=J s.d) g0 O O (de cJ) (by rw[w2]) hd16 hnd O hCe;obtain⟨r3,r4,k2,R2,g2,b2,s2⟩:=UP.room (base:=13) (word:=3) (n:=J s.r) g1 O O (by rw[s1 15 ne];grind) (by rw[w3]) hr16 hnr O hCe;have hbase:RO s.d s.r p.SW p.SZ R2 (TB s):=⟨by rw[s2 15 ne,s1 15 ne];grind,by rw[s2 14 ne,b1],b2,λj hj=>Sb s j O,λj hj=>Sa s j O,hd16,hr16,⟨hnd.1,r1⟩,⟨hnr.1,r3⟩⟩;have g2:UP C k2 (ko p.SW p.SZ pl p.code 0++(jg pl 14 4 2 p.S9++(jg pl 13 20 3 p.Ta++(tY p pl (17+J (jc p pl))++[⟨19,0,0,0,2⟩])))) R2 (TB s) M:=by
  have e:jc p pl++(tY p pl (17+J (jc p pl))++[⟨19,0,0,0,2⟩])=ko p.SW p.SZ pl p.code 0++(jg pl 14 4 2 p.S9++(jg pl 13 20 3 p.Ta++(tY p pl (17+J (jc p pl))++[⟨19,0,0,0,2⟩]))):=by
   rw[show jc p pl=ko p.SW p.SZ pl p.code 0++(jg pl 14 4 2 p.S9++jg pl 13 20 3 p.Ta)from I];simp only[aw]
  rw[e]at g2;exact g2
 obtain⟨V,hVe⟩:=Do (Tv s.d s.r p.code);have hVal:∀i x,p.code[i]? =some x->x.ok p.SW p.SZ (0+i)/\V.getD (0+i) 0=lz s.d s.r V x/\(x.op=3\/x.op=4->((0+i:Nat):Int)<=T.getD x.a.toNat 0/\((0+i:Nat):Int)<=T.getD x.b.toNat 0):=λi x hx=>by
  rw[bC];refine⟨ok.code i x hx,?_,ok.uses i x hx⟩;obtain⟨hlt,hxe⟩:=aC.1 hx;have hsp:p.code=p.code.take i++x::p.code.drop (i+1):=by rw[<-hxe,<-List.drop_eq_getElem_cons hlt,List.take_append_drop]
  grind [ok.code,vals_at]
 rw[hVe]at hV;obtain⟨k3,R3,W3,g3,b3,hold,ws3⟩:=UP.all (N:=J p.code) (V:=V) hp hD hR hV p.code 0 k2 R2 (TB s) g2 O hVal hbase (λa ha=>absurd ha O);have hBD:R3.getD 14 0=((J s.d - p.SW.toNat:Nat):Int):=by rw[b3.bd];omega
 obtain⟨k4,R4,W4,g4,s4,o4,n4,l4,hold4⟩:=UP.stack (B:=J s.d - p.SW.toNat) hp hV O O O (base:=14) (from_:=4) (word:=2) g3 ok.S9 O hBD b3.z hold;have hBR:R4.getD 13 0=((J s.r - p.SZ.toNat:Nat):Int):=by rw[s4 13 ne,b3.br];omega
 obtain⟨k5,R5,W5,g5,s5,o5,n5,l5,hold5⟩:=UP.stack (B:=J s.r - p.SZ.toNat) hp hV O O O (base:=13) (from_:=20) (word:=3) g4 ok.Ta O hBR (by rw[s4 15 ne,b3.z]) hold4;have hpos:k5=17+J (jc p pl):=by
  have hpre:C=(vz p e++jc p pl)++(tY p pl (17+J (jc p pl))++[⟨19,0,0,0,2⟩]):=by rw[hC2,hb];simp only[aw]
  have:=UP.pos g5 cJ hpre;rw[this,ar,hh17]
 have e1:W5.getD 1 0=s.flags:=by rw[o5 1 ne O,o4 1 ne O,ws3 1 ne,w1]
 obtain⟨f1,f2,f3,f4⟩:=UP.fin ok I hp hV g5 hpos cJ O (by rw[s5 15 ne,s4 15 ne,b3.z]) hold5 e1 hf15;rw[hVe];exact⟨r1,by omega,r3,by omega,f1,f2,by grind,by grind,by omega,by omega,
  λi hi=>by rw[f4 (4+i) O O O,o5 (4+i) O O,o4 (4+i) O O,ws3 (4+i) O,Sb s i O],
  λi hi=>by rw[f4 _ O O O,o5 _ O O,n4 i hi],
  λi hi=>by rw[f4 (20+i) O O O,o5 (20+i) O O,o4 (20+i) O O,ws3 (20+i) O,Sa s i O],
  λi hi=>by rw[f4 _ O O O,n5 i hi],f3⟩
end Go.Ink
namespace Go.Ink
open List renaming length→J, replicate→R9
open IntKind renaming wrap→V9
open Go.RowKit
variable{j:Nat}
theorem FU{U:List Bool}(hj:j<J U):(U.set j true).getD j false=true:=by grind
theorem getB_ne{U:List Bool}{i:Nat}{b:Bool}(h:i≠j):(U.set i b).getD j false=U.getD j false:=by grind
theorem oG:∀(l:Li) (U:List Bool) (i:Nat),us U i->us (i5 U l) i
 :=by intro y1;induction y1<;>grind [i5,FU,getB_ne]
theorem tT:∀(l:Li) (U:List Bool) (n:Int),n∈l->0<=n->n.toNat<J U->us (i5 U l) n.toNat
 :=by intro y1;induction y1<;>grind [i5,oG,FU]
theorem xF:∀(l:Li) (U:List Bool) (i:Nat),us (i5 U l) i->us U i\/∃n,n∈l/\n≠ -1/\n.toNat=i
 |[],_,_,h=>Or.inl h
 |m::l,U,i,h=>by
  have h:us (i5 (bif m != -1 then U.set m.toNat true else U) l) i:=h;rcases xF l _ i h with h|⟨n,h1,h2⟩
  .grind
  grind
theorem wk(code:List II):∀(k:Nat) (U:List Bool) (i:Nat),us U i->us (ke code k U) i
 :=by intro y1;induction y1<;>grind [ke,lM,II.zero,oG]
variable{code:List II}{k:Nat}
theorem Cs(hk:k<J code):code[k]? =some (code.getD k II.zero):=by grind
theorem wm{code:List II}(hw:WfC code):∀(k:Nat),k<=J code->∀(U:List Bool) (i:Nat),k<=i->us (ke code k U) i->us U i
 |0,_,_,_,_,h=>h
 |k+1,hk,U,i,hi,h=>by
  have h:us (ke code k (bif U.getD k false&&lM (code.getD k II.zero)then i5 U [(code.getD k II.zero).a,(code.getD k II.zero).b]else U)) i:=h;have h1:=wm hw k O _ i O h;cases hc:U.getD k false&&lM (code.getD k II.zero)with
  |false=>grind
  |true=>
   rw[hc,ah]at h1;obtain⟨ha,hb⟩:=hw k _ (Cs O) bZ
   grind [xF]
theorem qL{code:List II}(hw:WfC code):∀(k:Nat),k<=J code->∀(U:List Bool),J U=J code->∀(i:Nat),i<k->us (ke code k U) i->lM (code.getD i II.zero)=true->us (ke code k U) (code.getD i II.zero).a.toNat/\us (ke code k U) (code.getD i II.zero).b.toNat
 |0,_,_,_,i,hi,_,_=>absurd hi O
 |k+1,hk,U,hU,i,hi,h,hab=>by
  obtain⟨U',hU'⟩:∃U',(bif U.getD k false&&lM (code.getD k II.zero)then i5 U [(code.getD k II.zero).a,(code.getD k II.zero).b]else U)=U':=⟨_,I⟩;have e:ke code (k+1) U=ke code k U':=by rw[<-hU'];rfl
  have hl:J U'=J code:=by
   rw[<-hU',<-hU];cases U.getD k false&&lM (code.getD k II.zero)with
   |true=>exact gc _ _
   |false=>rfl
  rw[e]at h|-;by_cases hik:i=k
  .subst hik;have h1:=wm hw i O U' i (aK _) h;obtain⟨ha,hb⟩:=hw i _ (Cs O) hab
   grind [lM,II.zero,wk,tT]
  exact qL hw k O U' hl i O h hab
section
variable{D R:Li}
structure FInv(U:List Bool)(code:List II)(i:Nat)(pl:Li)(c:List II)(D R:Li):Prop where
 len:J pl=J code
 val:∀n,n<i->us U n->II.in_ (pl.getD n 0) c/\eE D R c (pl.getD n 0)=eE D R code n
theorem xh{V V':Li}{x:II}(h:x.op=0\/x.op=1\/x.op=2)(y:II)(h1:y.op=x.op)(h2:y.imm=x.imm):lz D R V y=lz D R V' x:=by
 obtain⟨op,dst,a,b,imm⟩:=x;obtain⟨op2,dst2,a2,b2,imm2⟩:=y;dsimp only at h h1 h2;subst h1 h2;rcases h with rfl|rfl|rfl<;>rfl
theorem AD{V V':Li}{x y:II}(h1:y.op=x.op)(h2:y.imm=x.imm)(hx:lM x=true)(ha:V.getD y.a.toNat 0=V'.getD x.a.toNat 0)(hb:V.getD y.b.toNat 0=V'.getD x.b.toNat 0):lz D R V y=lz D R V' x:=by
 obtain⟨op,dst,a,b,imm⟩:=x;obtain⟨op2,dst2,a2,b2,imm2⟩:=y;dsimp only at h1 h2 ha hb;subst h1 h2;unfold lM at hx;simp only[Bool.or_eq_true,beq_iff_eq]at hx;rcases hx with rfl|rfl
 .show(hI imm2 (V.getD a2.toNat 0) (V.getD b2.toNat 0)).1=(hI imm2 (V'.getD a.toNat 0) (V'.getD b.toNat 0)).1;rw[ha,hb]
 show(hI imm2 (V.getD a2.toNat 0) (V.getD b2.toNat 0)).2.1=(hI imm2 (V'.getD a.toNat 0) (V'.getD b.toNat 0)).2.1;rw[ha,hb]
theorem C7{c:List II}{pl:Li}{x:II}{n:Nat}(ho:(x.op=0\/x.op=1\/x.op=2)\/lM x=true)(ha:lM x=true->eE D R c (pl.getD x.a.toNat 0)=eE D R code x.a/\eE D R c (pl.getD x.b.toNat 0)=eE D R code x.b):
  lz D R (Tv D R c) (pw x pl n)=lz D R (Tv D R code) x:=by
 rcases ho with ho|hx
 .grind [lM,pw,xh]
 have e:pw x pl n=⟨x.op,n,pl.getD x.a.toNat 0,pl.getD x.b.toNat 0,x.imm⟩:=by unfold pw;rw[hx];rfl
 obtain⟨h1,h2⟩:=ha hx;rw[e];exact AD I I hx h1 h2
theorem GV(hw:WfC code)(ho:WfO code){i:Nat}{x:II}(hx:code[i]? =some x):eE D R code i=lz D R (Tv D R code) x:=by
 obtain⟨hi,hxe⟩:=aC.1 hx;have hsp:code=(code.take i++[x])++code.drop (i+1):=by rw[<-hxe,aw,List.singleton_append,<-List.drop_eq_getElem_cons hi,List.take_append_drop]
 have hl:J (code.take i)=i:=by rw[aO];omega
 have e1:eE D R code i=eE D R (code.take i++[x]) i:=by
  conv=>lhs;rw[hsp]
  exact iq ⟨by omega,by grind⟩
 have e2:eE D R (code.take i++[x]) i=lz D R (Tv D R (code.take i)) x:=by
  have:=kH (D:=D) (R:=R) (code.take i) x;rw[hl]at this;exact this
 rw[e1,e2];rcases ho i x hx with h|h
 .grind [xh]
 obtain⟨⟨a1,a2⟩,b1,b2⟩:=hw i x hx h;have hsp2:code=code.take i++code.drop i:=(List.take_append_drop i code).symm;have ea:eE D R code x.a=eE D R (code.take i) x.a:=by
  conv=>lhs;rw[hsp2]
  exact iq ⟨a1,by omega⟩
 have eb:eE D R code x.b=eE D R (code.take i) x.b:=by
  conv=>lhs;rw[hsp2]
  exact iq ⟨b1,by omega⟩
 exact AD I I h ea.symm eb.symm
theorem Mn{U:List Bool}{code:List II}(hw:WfC code)(ho:WfO code)(hcl:∀(i:Nat) (x:II),code[i]? =some x->us U i->lM x=true->us U x.a.toNat/\us U x.b.toNat):∀(suf:List II) (i:Nat) (pl:Li) (c:List II),code.drop i=suf->i<=J code->
  FInv U code i pl c D R->FInv U code (J code) (nQ U suf i pl c).1 (nQ U suf i pl c).2 D R
 |[],i,pl,c,hs,hi,h=>by
  have:J code=i:=by
   exact YV
  rw[this];exact h
 |x::suf,i,pl,c,hs,hi,h=>by
  have hil:i<J code:=by
   exact YV
  have hx:code[i]? =some x:=by rw[List.drop_eq_getElem_cons hil]at hs;injection hs with h1 h2;rw[ak hil,h1]
  have hs':code.drop (i+1)=suf:=by rw[List.drop_eq_getElem_cons hil]at hs;injection hs
  cases hu:U.getD i false with
  |false=>
   have e:nQ U (x::suf) i pl c=nQ U suf (i+1) pl c:=by show(bif U.getD i false then _ else _)=_;rw[hu];rfl
   rw[e];refine Mn hw ho hcl suf (i+1) pl c hs' O ⟨h.len,λn hn hun=>?_⟩;by_cases en:n=i
   .grind
   exact h.val n O hun
  |true=>
   have e:nQ U (x::suf) i pl c=nQ U suf (i+1) (pl.set i (J c:Int)) (c++[pw x (pl.set i (J c:Int)) (J c)]):=by show(bif U.getD i false then _ else _)=_;rw[hu];rfl
   rw[e];refine Mn hw ho hcl suf (i+1) _ _ hs' O ⟨by simp[h.len],λn hn hun=>?_⟩;have hlen:=h.len;by_cases en:n=i
   .subst en;rw[de O];refine⟨pf _ _,?_⟩;rw[kH,GV hw ho hx];refine C7 (ho n x hx) (λhab=>?_);obtain⟨⟨a1,a2⟩,b1,b2⟩:=hw n x hx hab;obtain⟨ua,ub⟩:=hcl n x hx hu hab;have ea:((x.a.toNat:Nat):Int)=x.a:=by omega
    have eb:((x.b.toNat:Nat):Int)=x.b:=by omega
    have ha:=(h.val x.a.toNat O ua).2;have hb:=(h.val x.b.toNat O ub).2
    grind
   obtain⟨h1,h2⟩:=h.val n O hun
   grind [cM,sH,iq]
theorem Ka{p:Pg}(h:Raw p){n:Int}(hn:n∈p.S9\/n∈p.Ta\/n=p.flags\/n=p.target)(h0:II.in_ n p.code):
  II.in_ ((fe p).1.getD n.toNat 0) (fe p).2/\eE D R (fe p).2 ((fe p).1.getD n.toNat 0)=eE D R p.code n:=by
 have hl0:J (Ie p)=J p.code:=by unfold Ie;rw[gc,gc,gc,az]
 have hcl:∀(i:Nat) (x:II),p.code[i]? =some x->us (gI p) i->lM x=true->us (gI p) x.a.toNat/\us (gI p) x.b.toNat:=λi x hx hu hab=>by
  have hi:i<J p.code:=(aC.1 hx).1;have e:p.code.getD i II.zero=x:=by rw[aS,hx];rfl
  have:=qL h.wf (J p.code) (aK _) (Ie p) hl0 i hi hu bZ;rw[e]at this;exact this
 have hF:=Mn (D:=D) (R:=R) (U:=gI p) h.wf h.ops hcl p.code 0 (R9 (J p.code) 0) [] cJ (ax _) ⟨by simp,λn hn=>absurd hn O⟩;obtain⟨i0,i1⟩:=h0;have en:((n.toNat:Nat):Int)=n:=by omega
 have hu:us (gI p) n.toNat:=by
  refine wk p.code (J p.code) _ _ ?_;unfold Ie;rcases hn with hn|hn|hn
  .grind [oG,tT]
  .grind [oG,tT,gc]
  grind [tT,gc]
 have:=hF.val n.toNat O hu;rw[en]at this;exact this
end
variable{c:List II}{x:II}
variable{n:Int}
theorem m6.pop2{w:Lw}(h:m6 w):m6 w.S0.2.S0.2/\II.in_ w.S0.1 w.S0.2.S0.2.code/\II.in_ w.S0.2.S0.1 w.S0.2.S0.2.code:=by
 obtain⟨h1,h2, -⟩:=h.S0;obtain⟨k1,k2,k3⟩:=h1.S0
 grind [Iq]
theorem m6.wfl{w:Lw}(h:m6 w){x:Int}(hx:II.in_ x w.code):m6 (w.wfl x):=⟨h.d,h.r,h.wf,h.ops,Or.inr hx,h.target,h.imm⟩
theorem m6.wtg{w:Lw}(h:m6 w){x:Int}(hx:II.in_ x w.code):m6 (w.wtg x):=⟨h.d,h.r,h.wf,h.ops,h.flags,Or.inr hx,h.imm⟩
theorem m6.wbr{w:Lw}(h:m6 w)(x:Int):m6 (w.wbr x):=⟨h.d,h.r,h.wf,h.ops,h.flags,h.target,h.imm⟩
variable{op:Int}
theorem Pj(hp:dD op=true){w:Lw}(h:m6 w){n nx:Int}(hn:u32 n)(hnx:u32 nx):m6 (w.one op n nx):=by
 refine m6.S5 ?_;have sing:∀{c:List II} {x:Int},II.in_ x c->∀n,n∈[x]->II.in_ n c:=λhx n hn=>by grind
 obtain⟨d1,d2,d3⟩:=h.S0;obtain⟨r1,r2,r3⟩:=h.Ty;obtain⟨p1,p2,p3⟩:=h.pop2;rcases qm hp with rfl|rfl|rfl|rfl|rfl|rfl|rfl|rfl|rfl|hr|hr|rfl|hr|rfl|rfl|rfl
 .exact h
 .exact Wx95_
 .exact Wx95_
 .exact d1.TH _ (λn hn=>by grind)
 .exact d1
 .exact p1.TH _ (λn hn=>by grind)
 .exact p1.TH _ (λn hn=>by grind)
 .exact d1.Uk _ (sing d2)
 .exact r1.TH _ (sing r2)
 .refine Y9 ?_;obtain⟨a1,a2⟩:=p1.add 4 w.S0.2.S0.1 w.S0.1 op O (Or.inr ⟨Or.inr I,p3,p2⟩);obtain⟨b1,b2⟩:=(a1.wfl a2).add 3 w.S0.2.S0.1 w.S0.1 op O (Or.inr ⟨Or.inl I,sH _ p3,sH _ p2⟩);exact b1.TH _ (sing b2)
 .rw[qx (Or.inr hr)];subst hr;obtain⟨a1,a2⟩:=p1.add 4 w.S0.2.S0.1 w.S0.1 25 O (Or.inr ⟨Or.inr I,p3,p2⟩);exact a1.wfl a2
 .exact h
 .have h5:op=33\/op=34\/op=35\/op=36\/op=37:=by omega
  rcases h5 with rfl|rfl|rfl|rfl|rfl<;>exact h.wbr _
 .exact(h.add 0 0 0 nx hnx (Or.inl I)).1.Uk _ (sing (h.add 0 0 0 nx hnx (Or.inl I)).2)
 .exact r1.wtg r2
 exact d1.wtg d2
theorem vg:m6 Lw.init:=⟨λ_ h=>(by cases h),λ_ h=>(by cases h),λ_ _ h=>(by cases h),λ_ _ h=>(by cases h),Or.inl rfl,Or.inl rfl,λ_ h=>(by cases h)⟩
theorem me{pc:Int}{w:Lw}{i:Int×Int}{l:List (Int×Int)}{q:Int×Lw}(h:nI pc w (i::l)=some q):
  eJ i.1 i.2=true/\dD i.1=true/\(l≠[]->gz i.1=false)/\nI (V9 .u32 (pc+V9 .u32 (cB i.1))) (w.one i.1 i.2 (V9 .u32 (pc+V9 .u32 (cB i.1)))) l=some q:=by
 have h:(bif(!eJ i.1 i.2|| !dD i.1)||(gz i.1&& !l.isEmpty)then none else nI (V9 .u32 (pc+V9 .u32 (cB i.1))) (w.one i.1 i.2 (V9 .u32 (pc+V9 .u32 (cB i.1)))) l)=some q:=h
 grind
theorem tV:∀(l:List (Int×Int)) (pc:Int) (w:Lw) (q:Int×Lw),(∀i,i∈l->u32 i.2)->nI pc w l=some q->m6 w->m6 q.2/\j7 w q.2/\(l≠[]->u32 q.1)
 |[],pc,w,q,_,h,hw=>by obtain rfl:(pc,w)=q:=aF h;grind [j7.refl]
 |i::l,pc,w,q,hu,h,hw=>by
  obtain⟨-,h2, -,h4⟩:=me h;obtain⟨k1,k2,k3⟩:=tV l _ _ q (λj hj=>hu j (aW _ hj)) h4 (Pj h2 hw (hu i cJ) (xj _));refine⟨k1,(Bz h2 w _ _).trans k2,λ_=>?_⟩;cases l with
  |nil=>obtain rfl:=aF h4;exact xj _
  |cons j l=>grind
inductive Jk:List (Int×Int)->St->St->Prop
 |nil (s:St):Jk [] s s
 |cons {op nn:Int} {l:List (Int×Int)} {s s1 s2:St} (hp:dD op=true) (hr:s.right=true) (h:XQ s op nn=⟨s1,false,false,[]⟩) (hm:l≠[]->gz op=false/\s1.pc=dV s op) (k:Jk l s1 s2):Jk ((op,nn)::l) s s2
theorem ME(hp:dD op=true)(h:gz op=false):op<32:=by
 unfold gz at h;simp only[aZ,Bool.and_eq_false_iff,aa]at h;rcases jr hp with q|q|q|q<;>omega
theorem made_ok{SW SZ:Int}{i:Nat}(h:kO SW SZ i x=true)(him:0<=x.imm/\x.imm<=4294967295):x.ok SW SZ i:=by
 obtain⟨op,dst,a,b,imm⟩:=x;unfold kO at h;dsimp only at h him;cases h0:dst !=(i:Int)with
 |true=>grind
 |false=>
 rw[h0,ac]at h;cases c0:op==0 with
 |true=>exact⟨him,Or.inl bZ,λhab=>by grind⟩
 |false=>
 rw[c0,ac]at h;cases c1:op==1 with
 |true=>
  rw[c1,ah]at h;simp only[ay,ai,beq_iff_eq]at h c1;exact⟨him,Or.inr (Or.inl ⟨c1,h.2⟩),λhab=>by grind⟩
 |false=>
 rw[c1,ac]at h;cases c2:op==2 with
 |true=>
  rw[c2,ah]at h;simp only[ay,ai,beq_iff_eq]at h c2;exact⟨him,Or.inr (Or.inr (Or.inl ⟨c2,h.2⟩)),λhab=>by grind⟩
 |false=>
 rw[c2,ac]at h;cases c3:op==3 with
 |true=>
  rw[c3,ah]at h;simp only[sS,ay,ai,beq_iff_eq]at h c3;exact⟨him,Or.inr (Or.inr (Or.inr (Or.inl ⟨c3,h.1.2,h.2⟩))),λ_=>⟨h.1.1.1,h.1.1.2⟩⟩
 |false=>
 rw[c3,ac]at h;cases c4:op==4 with
 |true=>
  rw[c4,ah]at h;simp only[sS,ay,Bool.or_eq_true,ai,beq_iff_eq]at h c4;exact⟨him,Or.inr (Or.inr (Or.inr (Or.inr ⟨c4,h.2⟩))),λ_=>⟨h.1.1,h.1.2⟩⟩
 |false=>grind
theorem uS{p:Pg}(h:p.Tf=true)(him:Ym p.code)(hn:J p.code<=64)(hnx:u32 p.next)(htk:u32 p.taken):PgOk p (gx p)/\(p.branch≠0->p.target= -1)/\(p.flags= -1\/0<=p.flags)/\(p.target= -1\/0<=p.target):=by
 unfold Pg.Tf Pg.TJ Pg.TI vU at h;simp only[ay,Bool.not_eq_true',Bool.or_eq_true,aZ,Bool.and_eq_false_iff,ai,aa,List.all_cons,List.all_nil,List.all_eq_true,beq_iff_eq,bne_eq_false_iff_eq,Bool.not_eq_false',sS]at h;obtain⟨⟨⟨d1,d2,d3,d4, -⟩,c1,c2⟩,hm,hoD,hoR,⟨hf,ht⟩,hb⟩:=h;have hok:Yp p.SW p.SZ p.code:=λn x hx=>by
  have:=yf p.code 0 hm n x hx;rw[bC]at this;exact made_ok this (him x (aG hx))
 refine⟨⟨hok,λn x hx ho=>?_,λn hn=>⟨(hoD n hn).1,(hoD n hn).2,qq p (Or.inl hn) (hoD n hn)⟩,λn hn=>⟨(hoR n hn).1,(hoR n hn).2,qq p (Or.inr (Or.inl hn)) (hoR n hn)⟩,λh0=>?_,λh0=>?_,?_,hn,d1,d2,d3,d4,hnx,htk,by omega⟩,?_,?_,?_⟩
 .have hl:=(aC.1 hx).1;obtain⟨a,b⟩:=(hok n x hx).ab ho;exact Lx p hx (by grind [lM]) ⟨a.1,by omega⟩ ⟨b.1,by omega⟩
 .have hf:0<=p.flags/\p.flags<J p.code:=by rcases hf with e|e;omega;exact e
  exact⟨hf.2,qq p (Or.inr (Or.inr (Or.inl I))) hf⟩
 .have ht:0<=p.target/\p.target<J p.code:=by rcases ht with e|e;omega;exact e
  exact⟨ht.2,qq p (Or.inr (Or.inr (Or.inr I))) ht⟩
 .omega
 .omega
 .omega
 omega
theorem one_len(hp:dD op=true)(w:Lw)(n nx:Int):(w.one op n nx).code.length<=J w.code+4:=by
 have hD:J w.S0.2.code<=J w.code+1:=zc 1 w.code w.d;have hR:J w.Ty.2.code<=J w.code+1:=zc 2 w.code w.r;have hP:J w.S0.2.S0.2.code<=J w.code+2:=aN (zc 1 w.S0.2.code w.S0.2.d) O;have hA:∀(v:Lw) (a b c d:Int),(v.add a b c d).code.length=J v.code+1:=λv a b c d=>by simp[Lw.add]
 rcases qm hp with rfl|rfl|rfl|rfl|rfl|rfl|rfl|rfl|rfl|hr|hr|rfl|hr|rfl|rfl|rfl
 .exact Nat.le_add_right _ _
 .show(w.add 0 0 0 n).code.length<=_;grind
 .show(w.add 0 0 0 n).code.length<=_;grind
 .show (J w.S0.2.code)<=_;omega
 .show (J w.S0.2.code)<=_;omega
 .show (J w.S0.2.S0.2.code)<=_;omega
 .show (J w.S0.2.S0.2.code)<=_;omega
 .show (J w.S0.2.code)<=_;omega
 .show (J w.Ty.2.code)<=_;omega
 .show(w.go op n nx).code.length<=_;refine Y9 ?_;show(((w.S0.2.S0.2.add 4 w.S0.2.S0.1 w.S0.1 op).wfl w.S0.2.S0.2.here).add 3 w.S0.2.S0.1 w.S0.1 op).code.length<=_;rw[hA];show(w.S0.2.S0.2.add 4 w.S0.2.S0.1 w.S0.1 op).code.length+1<=_
  grind
 .subst hr;show(w.S0.2.S0.2.add 4 w.S0.2.S0.1 w.S0.1 25).code.length<=_
  grind
 .exact Nat.le_add_right _ _
 .have h5:op=33\/op=34\/op=35\/op=36\/op=37:=by omega
  rcases h5 with rfl|rfl|rfl|rfl|rfl<;>exact Nat.le_add_right _ _
 .show(w.add 0 0 0 nx).code.length<=_;grind
 .show (J w.Ty.2.code)<=_;omega
 show J w.S0.2.code<=_;omega
theorem vh:∀(l:List (Int×Int)) (pc:Int) (w:Lw) (q:Int×Lw),nI pc w l=some q->J q.2.code<=J w.code+4*J l
 |[],pc,w,q,h=>by obtain rfl:(pc,w)=q:=aF h;grind
 |i::l,pc,w,q,h=>by
  obtain⟨-,h2, -,h4⟩:=me h;have h5:=vh l _ _ q h4
  grind [one_len,cB]
theorem Mo(U:List Bool):∀(suf:List II) (i:Nat) (pl:Li) (c:List II),(nQ U suf i pl c).2.length<=J c+J suf
 :=by intro y1;induction y1<;>grind [nQ,pw]
theorem B6(U:List Bool):∀(suf:List II) (i:Nat) (pl:Li) (c:List II),Ym c->Ym suf->Ym (nQ U suf i pl c).2
 :=by intro y1;induction y1<;>grind [Ym,nQ,pw,lM]
def ga(W:Li)(from_ n:Nat):List Int:=(List.range n).map λk=>W.getD (from_+k) 0
def oR(W:Li)(s:St):St:=⟨W.getD 0 0,ga W 4 (W.getD 2 0).toNat,ga W 20 (W.getD 3 0).toNat,W.getD 1 0,s.SQ,s.S1,s.ie,s.root,s.vec,s.epc,s.SU,s.addr,s.S6,s.eie,V9 .u64 (s.count+W.getD 36 0),s.halted⟩
theorem AL{W D out:Li}{f:Nat}(hn:n=((J D - k+J out:Nat):Int))(hlow:∀i,i<J D - k->W.getD (f+i) 0=D.getD i 0)(hnew:∀i,i<J out->W.getD (f+(J D - k)+i) 0=out.getD i 0):
  ga W f n.toNat=D.take (J D - k)++out:=by
 subst hn;rw[aV];have hl:J (D.take (J D - k))=J D - k:=by rw[aO];omega
 apply List.ext_getElem?
 grind [ga]
end Go.Ink
namespace Go.Ink
open List renaming length→J, replicate→R9
open IntKind renaming wrap→V9
open Go.RowKit Go.Proofs.Tryz
theorem jx:∀l:List HI,J (cH l)=8*J l
 |[]=>rfl
 |i::l=>by
  have:=jx l;show(sY i++cH l).length=_;rw[ar,this];show 8+_=8*(J l+1);omega
theorem Ed(l:List HI)(i:HI):cH (l++[i])=cH l++sY i:=by simp[cH]
variable{rd v:Int}
theorem kU(h:0<=rd/\rd<=15)(hv:0<=v/\v<=4294967295):HI.TV ⟨1,rd,0,0,v⟩:=⟨I,h,z15,z15,hv⟩
variable{ra:Int}
theorem FT(h:0<=rd/\rd<=15)(h2:0<=ra/\ra<=15):HI.TV ⟨2,rd,ra,0,0⟩:=⟨I,h,h2,z15,z32⟩
theorem fZ{op rb:Int}(ho:3<=op/\op<=13)(h:0<=rd/\rd<=15)(h2:0<=ra/\ra<=15)(h3:0<=rb/\rb<=15):HI.TV ⟨op,rd,ra,rb,0⟩:=by
 refine⟨?_,h,h2,h3,z32⟩
 grind [xL]
theorem zB(h:0<=rd/\rd<=15)(h2:0<=ra/\ra<=15)(hv:0<=v/\v<=4294967295):HI.TV ⟨14,rd,ra,0,v⟩:=⟨I,h,h2,z15,hv⟩
theorem vG{rb:Int}(h:0<=ra/\ra<=15)(h2:0<=rb/\rb<=15)(hv:0<=v/\v<=4294967295):HI.TV ⟨15,0,ra,rb,v⟩:=⟨I,z15,h,h2,hv⟩
theorem Ef{op:Int}(ho:op=16\/op=17)(h:0<=ra/\ra<=15)(hv:0<=v/\v<=4294967295):HI.TV ⟨op,0,ra,0,v⟩:=by
 rcases ho with rfl|rfl<;>exact⟨I,z15,h,z15,hv⟩
theorem B5(hv:0<=v/\v<=4294967295):HI.TV ⟨19,0,0,0,v⟩:=⟨I,z15,z15,z15,hv⟩
def gt(l:List HI):Prop:=∀i,i∈l->i.TV
theorem dO:gt []:=λ_ h=>by cases h
variable{i:HI}{l:List HI}
theorem cA(h:i.TV)(k:gt l):gt (i::l):=λj hj=>by
 rcases aI.1 hj with rfl|hj
 .exact h
 exact k j hj
theorem dX{a b:List HI}(h:gt a)(k:gt b):gt (a++b):=λj hj=>by
 rcases aJ.1 hj with hj|hj
 .exact h j hj
 exact k j hj
theorem PZ(op:Int):3<=sI op/\sI op<=13:=by
 grind [sI]
section
variable{pl:Pl}{N:Nat}
variable{r:Int}
theorem Mi(h:0<=r/\r<=15):gt (Si r):=cA (kU ne ne) (cA (fZ ne h h ne) dO)
theorem B4{op a b:Int}(h:0<=rd/\rd<=15)(ha:0<=a/\a<=15)(hb:0<=b/\b<=15):gt (yc op rd a b):=by
 grind [yc,cA,fZ,PZ,zk,dO,Mi]
theorem qw{up:Int}(h:0<=r/\r<=15)(hu:0<=up/\up<=4294967295):gt (wO r up):=cA (kU ne hu) (cA (fZ ne h h ne) (cA (fZ ne ne ne h) dO))
theorem sJ(h:0<=rd/\rd<=15)(h2:0<=r/\r<=15):gt (iD rd r):=cA (kU ne ne) (cA (fZ ne h h2 ne) dO)
theorem qv:gt ic:=cA (fZ ne ne ne ne) (dX (sJ ne ne) (qw ne ne))
theorem Ix{op a b:Int}(ha:0<=a/\a<=15)(hb:0<=b/\b<=15):gt (mP op a b):=by
 unfold mP;refine dX (dX (B4 ne ha hb) (cA (fZ ne ne ne ne) (dX (sJ ne ne) (qw ne ne)))) ?_;cases op==16 with
 |true=>exact cA (fZ ne ne ne ha) (dX (qw ne ne) (cA (fZ ne ne ha ne) (cA (fZ ne ne hb ne) qv)))
 |false=>
  cases op==17||op==25 with
  |true=>exact cA (fZ ne ne ha hb) (dX (qw ne ne) (cA (fZ ne ne ha hb) (cA (fZ ne ne ha ne) qv)))
  |false=>exact dO
variable{n into:Int}
theorem qu(hi:0<=into/\into<=15):gt (kr pl n into):=by
 grind [kr,dO,cA,zB,JI]
theorem Iw(hr:0<=r/\r<=15):gt (jv pl n r):=by
 grind [jv,dO,cA,vG,JI]
theorem Mh{nd nr:Int}{n:Nat}{x:II}(hp:∀k:Nat,k<N->pl.has k)(hn:n<N)(hx:x.ok nd nr n):gt (rA nd nr pl n x):=by
 have hN:=hp n hn;have h9:=vI (into:=9) hN ne;have hab:x.op=3\/x.op=4->(0<=eQ pl x.a 7/\eQ pl x.a 7<=15)/\(0<=eQ pl x.b 8/\eQ pl x.b 8<=15):=λho=>by
  obtain⟨⟨a1,a2⟩,b1,b2⟩:=hx.ab ho;have ea:((x.a.toNat:Nat):Int)=x.a:=by omega
  have eb:((x.b.toNat:Nat):Int)=x.b:=by omega
  have ha:=hp x.a.toNat O;have hb:=hp x.b.toNat O
  simp_all [vI]
 grind [rA,dX,Iw,hx.op,hx.imm,cA,kU,dO,zB,JI,qu,B4,Ix,FT]
theorem xN{nd nr:Int}(hp:∀k:Nat,k<N->pl.has k):∀(c:List II) (n:Nat),n+J c<=N->(∀(i:Nat) (x:II),c[i]? =some x->x.ok nd nr (n+i))->gt (ko nd nr pl c n)
 |[],_,_,_=>dO
 |x::c,n,hn,h=>by
  simp only[aE]at hn;refine dX (Mh hp O (by have:=h 0 x I;omega)) (xN hp c (n+1) O (λi y hy=>?_));have:=h (i+1) y bZ
  grind
theorem B3{base f:Int}(hp:∀k:Nat,k<N->pl.has k)(hb:0<=base/\base<=15):∀(c:Li) (k:Nat),(∀n,n∈c->0<=n/\n<N)->gt (zi pl base f c k)
 |[],_,_=>dO
 |n::c,k,h=>dX (qu ne) (cA (vG hb (vI (Ee hp (h n cJ)) ne) (JI _)) (B3 hp hb c (k+1) (λm hm=>h m (aW _ hm))))
theorem vF{base f word:Int}{out:Li}(hp:∀k:Nat,k<N->pl.has k)(hb:0<=base/\base<=15)(hw:0<=word/\word<=15)(h:∀n,n∈out->0<=n/\n<N):gt (jg pl base f word out):=
 dX (B3 hp hb out 0 h) (cA (kU ne (JI _)) (cA (fZ ne ne ne hb) (cA (vG ne ne O) dO)))
theorem rH{e base word S2 Tq:Int}(he:0<=e/\e<=4294967295)(hb:0<=base/\base<=15)(hw:0<=word/\word<=15):gt (qj e base word S2 Tq):=
 cA (zB hb ne O) (cA (kU ne (JI _)) (cA (fZ ne ne hb ne) (cA (Ef (Or.inr rfl) ne he) (cA (kU ne (JI _)) (cA (fZ ne ne ne hb) (cA (Ef (Or.inr rfl) ne he) (cA (fZ ne hb hb ne) dO)))))))
theorem D9(op:Int):0<=ib op/\ib op<=4294967295:=by
 grind [ib]
theorem Iy{p:Pg}{T:Li}(ok:PgOk p T)(hN:N=J p.code)(hp:∀k:Nat,k<N->pl.has k):gt (gC p pl):=by
 subst hN;have hfl:=ok.flags;have htg:=ok.target;have h15:HI.TV ⟨1,15,0,0,0⟩:=kU ne ne;refine dX ?_ (cA (B5 ne) dO);unfold fU;obtain⟨e,he⟩:=Do (V9 .u32 (J (fU p pl 0):Nat));have hee:=JI (J (fU p pl 0):Nat);unfold fU at he hee;rw[he]at hee|-;cases p.TR with
 |false=>exact cA h15 dO
 |true=>
  cases p.TZ with
  |false=>grind [cA,rH]
  |true=>
   have hflags:gt (gY p pl):=by
    unfold gY;by_cases h0:0<=p.flags
    .grind [cA,kU,dX,qu,fZ,vI,Ee,vG,dO]
    grind [dO]
   have htarget:gt (jW p pl):=by
    unfold jW;by_cases h0:0<=p.target
    .grind [dX,qu,cA,FT,vI,Ee,dO]
    grind [dO]
   have hbranch:∀q,gt (iJ p q):=λq=>by
    grind [iJ,dO,cA,zB,kU,D9,fZ,Ef,j4,JI,ok.taken]
   show gt (vz p e++(jc p pl++tY p pl (17+J (jc p pl))));refine dX (cA h15 (dX (rH hee ne ne) (rH hee ne ne))) (dX (dX (xN hp p.code 0 O (λi x hx=>by rw[bC];exact ok.code i x hx)) (dX (vF hp ne ne (λn hn=>⟨(ok.S9 n hn).1,(ok.S9 n hn).2.1⟩)) (vF hp ne ne (λn hn=>⟨(ok.Ta n hn).1,(ok.Ta n hn).2.1⟩)))) ?_)
   grind [tY,dX,cA,kU,ok.next,vG,JI,B5,dO]
end
section
attribute [local irreducible] Ve bN
theorem hi_eq(i:HI):Yr prog 10000 370 (XE i) (XE i):=
 .struct rfl Zk (XC.cons ne ir ir (.int rfl) (XC.cons ne ir ir (.int rfl) (XC.cons ne ir ir (.int rfl) (XC.cons ne ir ir (.int rfl) (XC.cons ne ir ir (.int rfl) XC.nil)))))
theorem BX(i:HI)(h:i.TV)(w:World):CW prog 312 [XE i] w (.bool true):=by
 have HA:=QK i;rw[h.asked]at HA;have hreg:∀n:Int,0<=n/\n<=15->(decide (0<=n)&&decide (n<16))=true:=λn hn=>by grind
 have e1:=hreg _ h.rd;have e2:=hreg _ h.ra;have e3:=hreg _ h.rb;have R1:=Ec i.rd;have R2:=Ec i.ra;have R3:=Ec i.rb;rw[e1]at R1;rw[e2]at R2;rw[e3]at R3;refine UV func312 ntmps312 ?_;refine An ?_;refine ZO λb1=>?_;refine UU ?_;refine UZ (λw hi=>HA w) ?_;refine UN ?_;refine ZN λb3=>?_
 refine ZM ?_;refine US ?_;refine jl (bS I I) Zh ir ir (Zv I) I (jl (bS I I) Zh ir ir (Zv I) I (V3 I I (y_eqlT P5 (hi_eq i) (cO I) (cO I)) ?_));refine UK ?_;refine gm (bS I I) I (dT I (λ_ _=>I) (λw hi=>R1 w)) I ?_;refine Vz ?_;refine UK ?_;refine gm (bS I I) I (dT I (λ_ _=>I) (λw hi=>R2 w)) I ?_;refine Vz ?_;refine UK ?_;refine gm (bS I I) I (dT I (λ_ _=>I) (λw hi=>R3 w)) I ?_;refine Vz ?_;exact qP
theorem hi_snoc{A:Oa}{c:Nat}:slv 370 5 A (J l+1) c (l.flatMap HI.cells++i.cells)=W7 A c (l++[i]):=by
 grind
theorem FR(A:Oa)(c:Nat)(l:List HI)(hg:gt l)(hl:J l<=100000)(w:World)(h:U5 w 5 A (J l) c (l.flatMap HI.cells)):
  UW prog 238 [.slice A (J l) c] w [] (λv cs=>∃A' c',v= .tuple #[.slice A' (J (cH l)) c',.i 0]/\cs=[sl .u8 5 A' (J (cH l)) c' (cH l)]):=by
 refine UV func238 ntmps238 ?_;refine kF ?_;refine dB 5 1 (UU ?_);refine Vs (λq:Nat×Option Addr×Nat=>[(4,.slice q.2.1 (J (cH (l.take q.1))) q.2.2),(7,.slice A (J l) c),(8,.i (J l)),(9,.i (q.1:Int))]) (λq=>[sl .u8 5 q.2.1 (J (cH (l.take q.1))) q.2.2 (cH (l.take q.1))]) (λq=>q.1<=J l) (λq=>J l - q.1) (⟨0,none,0⟩) O ?_;rintro⟨k,A1,c1⟩ hk;dsimp only at hk|-;refine UH ?_ ?_<;>intro hc3
 .simp only[ai]at hc3;obtain⟨ad,rfl⟩:=h.some_ O;obtain⟨i,hx⟩:∃i,l[k]? =some i:=⟨_,ak (show k<J l by omega)⟩;have hgi:=hg i (aG hx);have htk:l.take (k+1)=l.take k++[i]:=(by rw[List.take_add_one,hx];rfl);have hlk:J (cH (l.take k))<=800000:=(by rw[jx,aO];omega);obtain⟨o1,o2⟩:=hgi.op;obtain⟨a1,a2⟩:=hgi.rd;obtain⟨p1,p2⟩:=hgi.ra;obtain⟨q1,q2⟩:=hgi.rb;obtain⟨m1,m2⟩:=hgi.imm;have HR:=BX i hgi;have hbe:sY i=[i.op,i.rd,i.ra,i.rb,i.imm%256,i.imm/256%256,i.imm/65536%256,i.imm/16777216%256]:=rfl;have hbs:cH (l.take (k+1))=cH (l.take k)++sY i:=(by rw[htk,Ed]);have hcl:i.cells=[.i i.op,.i i.rd,.i i.ra,.i i.rb,.w i.imm]:=rfl;obtain⟨op,rd,ra,rb,im⟩:=i;dsimp only at o1 o2 a1 a2 p1 p2 q1 q2 m1 m2 hbe hcl;refine UU ?_;refine GA ?_;refine dZ (bX (vs:=[.i op,.i rd,.i ra,.i rb,.w im]) ir ir py) (fB h (λj v hj=>fw (f:=HI.cells) ir (i:=j) hx hj)) I ?_;refine ZN λb6=>?_
  refine jb ?_;refine UZ (λw hi=>HR w) ?_;refine rZ ?_;refine UU ?_;refine Jf ?_;refine An ?_;refine Jf ?_;refine An ?_;refine Jf ?_;refine An ?_;refine Jf ?_;refine An ?_;refine Zy (cz I I (Zv I) (show V9 .u8 im=im%256 from by rw[IntKind.wrap_u8])) ?_;refine An ?_;refine Zy (jT (Zv I) (Zv I) O (show _=im/256 from by show im.fdiv 256=_;grind)) ?_;refine Zy (cz I I (Zv I) (show V9 .u8 (im/256)=im/256%256 from by rw[IntKind.wrap_u8])) ?_;refine An ?_;refine Zy (jT (Zv I) (Zv I) O (show _=im/65536 from by show im.fdiv 65536=_;grind)) ?_;refine Zy (cz I I (Zv I) (show V9 .u8 (im/65536)=im/65536%256 from by rw[IntKind.wrap_u8])) ?_;refine An ?_;refine Zy (jT (Zv I) (Zv I) O (show _=im/16777216 from by show im.fdiv 16777216=_;grind)) ?_;refine Zy (cz I I (Zv I) (show V9 .u8 (im/16777216)=im/16777216%256 from by rw[IntKind.wrap_u8])) ?_;refine jQ ?_;rintro _ _ ⟨b44,rfl,rfl⟩;refine gS (cC (e:=5) (sz:=1) (bytes:=1) I I Za I I (λw hi=>hi.rd (UJ (slv 5 1 (sA b44) 8 8 (ints .u8 (sY ⟨op,rd,ra,rb,im⟩))))) cR gD O) I ?_;rintro _ _ ⟨A2,c2,rfl,rfl⟩;rw[cy,<-hbs,show(cH (l.take k)).length+8=J (cH (l.take (k+1))) from by simp_all];refine j5 ?_;refine Vd ((⟨k+1,A2,c2⟩:Nat×Option Addr×Nat)) O
 simp only[aa]at hc3;obtain rfl:k=J l:=by omega
 rw[List.take_length];refine ZV ?_;exact pP
theorem DY{l:Li}{n:Nat}{x:Int}(h:x∈l.set n v):x∈l\/x=v:=by grind
theorem Hr{op a b:Int}(ha:0<=a/\a<=18446744073709551615)(hb:0<=b/\b<=18446744073709551615):0<=kT op a b/\kT op a b<=18446744073709551615:=by
 have hw:∀z:Int,0<=V9 .u64 z/\V9 .u64 z<=18446744073709551615:=λz=>by rw[aP];omega
 have ht:∀c:Bool,0<=Vx c/\Vx c<=18446744073709551615:=λc=>by cases c<;>decide
 obtain⟨x,rfl⟩:∃x:Nat,a=x:=aj ha.1;obtain⟨y,rfl⟩:∃y:Nat,b=y:=aj hb.1;have hx:x<18446744073709551616:=by omega
 have hy:y<18446744073709551616:=by omega
 have h1:x&&&y<=x:=Nat.and_le_left;have h2:x|||y<2^64:=Nat.or_lt_two_pow hx hy
 have h3:x^^^y<2^64:=Nat.xor_lt_two_pow hx hy;have bp:∀{c:Bool} {u v:Int},(0<=u/\u<=18446744073709551615)->(0<=v/\v<=18446744073709551615)->0<=(bif c then u else v)/\(bif c then u else v)<=18446744073709551615:=λ{c u v} h k=>by grind
 have hsh:0<=(x:Int).fdiv (2^(min ((y:Int)).toNat IntKind.u64.bits))/\(x:Int).fdiv (2^(min ((y:Int)).toNat IntKind.u64.bits))<=18446744073709551615:=by
  rw[aV,Int.fdiv_eq_ediv_of_nonneg _ bZ];have e:((x:Int)/2^(min y IntKind.u64.bits))=((x/2^(min y IntKind.u64.bits):Nat):Int):=by simp
  have h4:x/2^(min y IntKind.u64.bits)<=x:=Nat.div_le_self _ _;rw[e];obtain⟨q,hq⟩:=Do (x/2^(min y IntKind.u64.bits));rw[hq]at h4|-;omega
 unfold kT;exact bp ha (bp (hw _) (bp (hw _) (bp (by grind [Ng]) (bp (by grind [or64]) (bp (by grind [GG]) (bp (hw _) (bp hsh (bp (hw _) (bp (bp ⟨by omega,by omega⟩ (hw _)) (bp (ht _) (ht _)))))))))))
variable{m:HM}
theorem hdo_ok(hi:i.TV)(h:m.ok):(Wr i m).2.ok:=by
 have hset:∀(n:Nat) (v:Int),(0<=v/\v<=18446744073709551615)->HM.ok ⟨m.Tu.set n v,m.words,m.pc+1⟩:=λn v hv=>
  ⟨by grind [h.rl],h.wl,λx hx=>by rcases DY hx with q|q;exact h.r x q;omega,h.w,by grind [h.pc]⟩
 have hnx:HM.ok ⟨m.Tu,m.words,m.pc+1⟩:=⟨h.rl,h.wl,h.r,h.w,by grind [h.pc]⟩;obtain⟨i1,i2⟩:=hi.imm;unfold Wr;cases i.op==0 with
 |true=>exact hnx
 |false=>cases i.op==1 with
  |true=>grind
  |false=>cases i.op==14||i.op==15 with
   |true=>
    cases decide ((J m.words:Int)<=qs m.Tu i)with
    |true=>exact h
    |false=>cases i.op==14 with
     |true=>grind [iY,h.w,qs]
     |false=>exact⟨h.rl,by grind [h.wl],h.r,λx hx=>by rcases DY hx with q|q;exact h.w x q;rw[q];exact JI _,by grind [h.pc]⟩
   |false=>cases i.op==16||i.op==17 with
    |true=>
     refine⟨h.rl,h.wl,h.r,h.w,?_⟩
     grind [h.pc]
    |false=>cases i.op==18 with
     |true=>exact⟨h.rl,h.wl,h.r,h.w,i1⟩
     |false=>grind [Hr,za,h.r]
variable{C:List HI}
theorem FP(hC:gt C)(h:m.ok):(Te C m).2.ok:=by
 unfold Te;cases hd:decide (m.pc<0)||decide ((J C:Int)<=m.pc)with
 |true=>exact h
 |false=>
  simp only[aZ,aa]at hd;have hlt:m.pc.toNat<J C:=by omega
  refine hdo_ok (hC _ ?_) h
  grind
section
variable{R:Li}{bw n cc:Nat}{Ac:Oa}{pc:Int}
theorem hm_setr(h:J R=16){k:Nat}(hk:k<16)(v:Int):(jw R bw Ac n cc pc).set k (.int .u64 v)=jw (R.set k v) bw Ac n cc pc:=by
 simp_all [ints]
theorem L7(h:J R=16)(p:Int):(jw R bw Ac n cc pc).set 18 (.i p)=jw R bw Ac n cc p:=by
 simp_all [ints,dF]
theorem hm_setc(h:J R=16)(A:Oa)(m c:Nat):(jw R bw Ac n cc pc).set 17 (.slice A m c)=jw R bw A m c pc:=by
 simp_all [ints,dF]
end
theorem Iv(A:Oa)(c:Nat)(i:HI)(hg:i.TV)(w:World)(h:Rd w .u8 A 8 c (sY i)):
  CW prog 313 [.slice A 8 c] w (.tuple #[XE i,.i 0]):=by
 obtain⟨ad,rfl⟩:=h.some_ ne;have HR:=BX i hg;obtain⟨o1,o2⟩:=hg.op;obtain⟨a1,a2⟩:=hg.rd;obtain⟨p1,p2⟩:=hg.ra;obtain⟨q1,q2⟩:=hg.rb;obtain⟨m1,m2⟩:=hg.imm;obtain⟨op,rd,ra,rb,im⟩:=i;dsimp only at o1 o2 a1 a2 p1 p2 q1 q2 m1 m2;obtain⟨m,rfl⟩:∃m:Nat,im=m:=aj m1;have hib:=PX (show m<4294967296 by omega);have hbe:sY ⟨op,rd,ra,rb,(m:Int)⟩=[op,rd,ra,rb,((m%256:Nat):Int),((m/256%256:Nat):Int),((m/65536%256:Nat):Int),((m/16777216%256:Nat):Int)]:=rfl;rw[hbe]at h;refine UV func313 ntmps313 ?_;refine An ?_;refine ZN λb2=>?_;refine gP ?_;refine lN ?_;refine UN ?_;refine bQ (Vg [40]) Zk (ZE 0 ?_);refine UY 1 I (cZ (j:=0) I ir (Zv I) (Zv I) UL UL) ?_;refine Vn 2 I (bO ir py) (dK h (cw (j:=0) I)) ?_;refine UY 3 I (cz I I py Zl) ?_;refine ZE 4 ?_;refine UY 5 I (cZ (j:=1) I ir (Zv I) (Zv I) UL UL) ?_;refine Vn 6 I (bO ir py) (dK h (cw (j:=1) I)) ?_;refine UY 7 I (cz I I py Zl) ?_;refine ZE 8 ?_;refine UY 9 I (cZ (j:=2) I ir (Zv I) (Zv I) UL UL) ?_;refine Vn 10 I (bO ir py) (dK h (cw (j:=2) I)) ?_;refine UY 11 I (cz I I py Zl) ?_;refine ZE 12 ?_;refine UY 13 I (cZ (j:=3) I ir (Zv I) (Zv I) UL UL) ?_;refine Vn 14 I (bO ir py) (dK h (cw (j:=3) I)) ?_;refine UY 15 I (cz I I py Zl) ?_;refine ZE 16 ?_;refine UY 17 I (cZ (j:=4) I ir (Zv I) (Zv I) UL UL) ?_;refine Vn 18 I (bO ir py) (dK h (cw (j:=4) I)) ?_;refine UY 19 I (cz I I (Zv I) Ns) ?_;refine ZE 20 ?_;refine UY 21 I (cZ (j:=5) I ir (Zv I) (Zv I) UL UL) ?_;refine Vn 22 I (bO ir py) (dK h (cw (j:=5) I)) ?_;refine UY 23 I (cz I I (Zv I) Ns) ?_;refine UY 24 I (pq (Zv I) (Zv I) O I) ?_;refine ZE 25 ?_;refine ZE 26 ?_;refine UY 27 I (cZ (j:=6) I ir (Zv I) (Zv I) UL UL) ?_;refine Vn 28 I (bO ir py) (dK h (cw (j:=6) I)) ?_;refine UY 29 I (cz I I (Zv I) Ns) ?_;refine UY 30 I (pq (Zv I) (Zv I) O I) ?_;refine ZE 31 ?_;refine ZE 32 ?_;refine UY 33 I (cZ (j:=7) I ir (Zv I) (Zv I) UL UL) ?_;refine Vn 34 I (bO ir py) (dK h (cw (j:=7) I)) ?_;refine UY 35 I (cz I I (Zv I) Ns) ?_;refine UY 36 I (pq (Zv I) (Zv I) O I) ?_;refine UY 37 I (yp py py hib) ?_;refine ZE 38 ?_;refine cP 39 Zk ?_;refine ZP λb4=>?_
 refine cP 40 Zk (ZR ?_);refine fh ?_;refine UQ ?_;refine UZ (λw hi=>HR w) ?_;refine UN ?_;refine j6 ?_;refine ij ?_;exact Wy
end
end Go.Ink
