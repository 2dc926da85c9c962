/- Lemmas. -/
import Derived.Test.YtepfimeihngjoaaGreatDoorYam
import Derived.Test.YtepfimeihngjoaaGreatDoorYan
import Derived.Test.YtepfimeihngjoaaGreatDoorYao
set_option linter.all false
set_option maxRecDepth 100000
set_option maxHeartbeats 4000000
namespace Go.Ink
open List renaming length→J, replicate→R9
open IntKind renaming wrap→V9
open Go.RowKit
variable{n:Int}
variable{i:Nat}
variable{j:Nat}
variable{c:List II}{x:II}
theorem OK{op:Int}(hp:dy op=true){w:Lw}(h:mX w){n nx:Int}(hn:u32 n)(hnx:u32 nx):mX (w.one op n nx):=by
 refine mX.SN ?_;have sing:∀{c:List II} {x:Int},II.in_ x c->∀n,n∈[x]->II.in_ n c:=λhx n hn=>by grind
 obtain⟨d1,d2,d3⟩:=h.SH;obtain⟨r1,r2,r3⟩:=h.Ti;obtain⟨p1,p2,p3⟩:=h.pop2;rcases qc hp with rfl|rfl|rfl|rfl|rfl|rfl|rfl|rfl|rfl|hr|hr|rfl|hr|rfl|rfl|rfl
 .exact h
 .exact Wx94_
 .exact Wx94_
 .exact d1.Tt _ (λn hn=>by grind)
 .exact d1
 .exact p1.Tt _ (λn hn=>by grind)
 .exact p1.Tt _ (λn hn=>by grind)
 .exact d1.TX _ (sing d2)
 .exact r1.Tt _ (sing r2)
 .refine YF ?_;obtain⟨a1,a2⟩:=p1.add 4 w.SH.2.SH.1 w.SH.1 op O (Or.inr ⟨Or.inr I,p3,p2⟩);obtain⟨b1,b2⟩:=(a1.wfl a2).add 3 w.SH.2.SH.1 w.SH.1 op O (Or.inr ⟨Or.inl I,sh _ p3,sh _ p2⟩);exact b1.Tt _ (sing b2)
 .rw[qp (Or.inr hr)];subst hr;obtain⟨a1,a2⟩:=p1.add 4 w.SH.2.SH.1 w.SH.1 25 O (Or.inr ⟨Or.inr I,p3,p2⟩);exact a1.wfl a2
 .exact h
 .have h5:op=33\/op=34\/op=35\/op=36\/op=37:=by omega
  rcases h5 with rfl|rfl|rfl|rfl|rfl<;>exact h.wbr _
 .exact(h.add 0 0 0 nx hnx (Or.inl I)).1.TX _ (sing (h.add 0 0 0 nx hnx (Or.inl I)).2)
 .exact r1.wtg r2
 exact d1.wtg d2
def nB(pc:Int)(w:Lw):List (Int×Int)->Option (Int×Lw)
 |[]=>some (pc,w)
 |i::l=>bif(!eG i.1 i.2|| !dy i.1)||(gg i.1&& !l.isEmpty)then none else nB (V9 .u32 (pc+V9 .u32 (cw i.1))) (w.one i.1 i.2 (V9 .u32 (pc+V9 .u32 (cw i.1)))) l
def fm(pc:Int)(l:List (Int×Int)):Option Pg:=
 bif decide ((J l:Int)<1)||decide (8<(J l:Int))then none else
 match nB pc Lw.init l with
 |none=>none
 |some (nx,w)=>some (cC (yj nx w (l.getLastD (0,0)) (J l)))
theorem lX{pc:Int}{w:Lw}{i:Int×Int}{l:List (Int×Int)}{q:Int×Lw}(h:nB pc w (i::l)=some q):
  eG i.1 i.2=true/\dy i.1=true/\(l≠[]->gg i.1=false)/\nB (V9 .u32 (pc+V9 .u32 (cw i.1))) (w.one i.1 i.2 (V9 .u32 (pc+V9 .u32 (cw i.1)))) l=some q:=by
 have h:(bif(!eG i.1 i.2|| !dy i.1)||(gg i.1&& !l.isEmpty)then none else nB (V9 .u32 (pc+V9 .u32 (cw i.1))) (w.one i.1 i.2 (V9 .u32 (pc+V9 .u32 (cw i.1)))) l)=some q:=h
 grind
theorem tz:∀(l:List (Int×Int)) (pc:Int) (w:Lw) (q:Int×Lw),(∀i,i∈l->u32 i.2)->nB pc w l=some q->mX w->mX q.2/\jQ w q.2/\(l≠[]->u32 q.1)
 |[],pc,w,q,_,h,hw=>by obtain rfl:(pc,w)=q:=aG h;grind [jQ.refl]
 |i::l,pc,w,q,hu,h,hw=>by
  obtain⟨-,h2, -,h4⟩:=lX h;obtain⟨k1,k2,k3⟩:=tz l _ _ q (λj hj=>hu j (bo _ hj)) h4 (OK h2 hw (hu i cE) (wu _));refine⟨k1,(AK h2 w _ _).trans k2,λ_=>?_⟩;cases l with
  |nil=>obtain rfl:=aG h4;exact wu _
  |cons j l=>grind
section
variable{n:Nat}{op nn:Int}{s:St}{U:Uo}{d:Un}
theorem Kd(h:dy op=true):∃R:Um,R.device=false/\nw n s op nn U d=⟨R,U,d⟩/\AP s op nn=R:=by
 have hc:op=0\/op=1\/op=2\/op=3\/op=4\/op=5\/op=6\/op=7\/op=8\/op=16\/op=17\/op=18\/op=19\/op=20\/op=21\/op=22\/op=23\/op=25\/op=32\/op=33\/op=34\/op=35\/op=36\/op=37\/op=38\/op=39\/op=40:=by
  exact Xt
 rcases hc with rfl|rfl|rfl|rfl|rfl|rfl|rfl|rfl|rfl|rfl|rfl|rfl|rfl|rfl|rfl|rfl|rfl|rfl|rfl|rfl|rfl|rfl|rfl|rfl|rfl|rfl|rfl<;>
  first
  |exact⟨_,rfl,rfl,rfl⟩
  |exact⟨_,MA rfl rfl,rfl,rfl⟩
  |(refine⟨_,?_,rfl,rfl⟩;exact MA (b:=(gP _ (eV s _).pop.top (eV s _).top).2.2) (x:=(eV s _).pop.pop) (y:=(eV s _).pop.pop.wt ⟨5,0⟩) I I)
theorem EV(h:dy op=true)(hr:s.right=true):lj n s op nn U d=(Xs s op nn,⟨U.m.calm,U.t⟩,d)/\(Xs s op nn).device=false/\(Xs s op nn).SC=[]:=by
 obtain⟨R,h1,h2,h3⟩:=Kd (n:=n) (s:=s) (nn:=nn) (U:=⟨U.m.calm,U.t⟩) (d:=d) h;unfold lj Xs;rw[hr,h2,h3];refine DR ?_;cases(dN s op nn !=0)with
 |true=>grind
 |false=>
  simp only[ac];have e:DG s ⟨R,⟨U.m.calm,U.t⟩,d⟩=Sb s R:=by
   unfold DG Sb;rw[show dY U.m.calm.SD 64=[]from wv]
  grind [Sb]
end
end Go.Ink
namespace Go.Ink
open List renaming length→J, replicate→R9
open IntKind renaming wrap→V9
open Go.RowKit Go.Proofs.Tryz
theorem made_ok{SE SG:Int}{i:Nat}{x:II}(h:kD SE SG i x=true)(him:0<=x.imm/\x.imm<=4294967295):x.ok SE SG i:=by
 obtain⟨op,dst,a,b,imm⟩:=x;unfold kD at h;dsimp only at h him;cases h0:dst !=(i:Int)with
 |true=>grind
 |false=>
 rw[h0,ac]at h;cases c0:op==0 with
 |true=>exact⟨him,Or.inl Do,λhab=>by grind⟩
 |false=>
 rw[c0,ac]at h;cases c1:op==1 with
 |true=>
  rw[c1,ae]at h;simp only[aC,ah,beq_iff_eq]at h c1;exact⟨him,Or.inr (Or.inl ⟨c1,h.2⟩),λhab=>by grind⟩
 |false=>
 rw[c1,ac]at h;cases c2:op==2 with
 |true=>
  rw[c2,ae]at h;simp only[aC,ah,beq_iff_eq]at h c2;exact⟨him,Or.inr (Or.inr (Or.inl ⟨c2,h.2⟩)),λhab=>by grind⟩
 |false=>
 rw[c2,ac]at h;cases c3:op==3 with
 |true=>
  rw[c3,ae]at h;simp only[sB,aC,ah,beq_iff_eq]at h c3;exact⟨him,Or.inr (Or.inr (Or.inr (Or.inl ⟨c3,h.1.2,h.2⟩))),λ_=>⟨h.1.1.1,h.1.1.2⟩⟩
 |false=>
 rw[c3,ac]at h;cases c4:op==4 with
 |true=>
  rw[c4,ae]at h;simp only[sB,aC,Bool.or_eq_true,ah,beq_iff_eq]at h c4;exact⟨him,Or.inr (Or.inr (Or.inr (Or.inr ⟨c4,h.2⟩))),λ_=>⟨h.1.1,h.1.2⟩⟩
 |false=>grind
theorem one_len{op:Int}(hp:dy op=true)(w:Lw)(n nx:Int):(w.one op n nx).code.length<=J w.code+4:=by
 have hD:J w.SH.2.code<=J w.code+1:=ym 1 w.code w.d;have hR:J w.Ti.2.code<=J w.code+1:=ym 2 w.code w.r;have hP:J w.SH.2.SH.2.code<=J w.code+2:=aR (ym 1 w.SH.2.code w.SH.2.d) O;have hA:∀(v:Lw) (a b c d:Int),(v.add a b c d).code.length=J v.code+1:=λv a b c d=>by simp[Lw.add]
 rcases qc hp with rfl|rfl|rfl|rfl|rfl|rfl|rfl|rfl|rfl|hr|hr|rfl|hr|rfl|rfl|rfl
 .exact Nat.le_add_right _ _
 .show(w.add 0 0 0 n).code.length<=_;grind
 .show(w.add 0 0 0 n).code.length<=_;grind
 .show (J w.SH.2.code)<=_;omega
 .show (J w.SH.2.code)<=_;omega
 .show (J w.SH.2.SH.2.code)<=_;omega
 .show (J w.SH.2.SH.2.code)<=_;omega
 .show (J w.SH.2.code)<=_;omega
 .show (J w.Ti.2.code)<=_;omega
 .show(w.go op n nx).code.length<=_;refine YF ?_;show(((w.SH.2.SH.2.add 4 w.SH.2.SH.1 w.SH.1 op).wfl w.SH.2.SH.2.here).add 3 w.SH.2.SH.1 w.SH.1 op).code.length<=_;rw[hA];show(w.SH.2.SH.2.add 4 w.SH.2.SH.1 w.SH.1 op).code.length+1<=_
  grind
 .subst hr;show(w.SH.2.SH.2.add 4 w.SH.2.SH.1 w.SH.1 25).code.length<=_
  grind
 .exact Nat.le_add_right _ _
 .have h5:op=33\/op=34\/op=35\/op=36\/op=37:=by omega
  rcases h5 with rfl|rfl|rfl|rfl|rfl<;>exact Nat.le_add_right _ _
 .show(w.add 0 0 0 nx).code.length<=_;grind
 .show (J w.Ti.2.code)<=_;omega
 show J w.SH.2.code<=_;omega
theorem uD:∀(l:List (Int×Int)) (pc:Int) (w:Lw) (q:Int×Lw),nB pc w l=some q->J q.2.code<=J w.code+4*J l
 |[],pc,w,q,h=>by obtain rfl:(pc,w)=q:=aG h;grind
 |i::l,pc,w,q,h=>by
  obtain⟨-,h2, -,h4⟩:=lX h;have h5:=uD l _ _ q h4
  grind [one_len,cw]
variable{n:Int}
variable{v:Int}
section
variable{pl:Pl}{N:Nat}
theorem LA{nd nr:Int}{n:Nat}{x:II}(hp:∀k:Nat,k<N->pl.has k)(hn:n<N)(hx:x.ok nd nr n):fY (rc nd nr pl n x):=by
 have hN:=hp n hn;have h9:=vc (into:=9) hN An;have hab:x.op=3\/x.op=4->(0<=eJ pl x.a 7/\eJ pl x.a 7<=15)/\(0<=eJ pl x.b 8/\eJ pl x.b 8<=15):=λho=>by
  obtain⟨⟨a1,a2⟩,b1,b2⟩:=hx.ab ho;have ea:((x.a.toNat:Nat):Int)=x.a:=by omega
  have eb:((x.b.toNat:Nat):Int)=x.b:=by omega
  have ha:=hp x.a.toNat O;have hb:=hp x.b.toNat O
  simp_all [vc]
 grind [rc,dV,Hu,hx.op,hx.imm,cn,kK,dJ,yK,I6,qm,Bl,Hv,Fu]
theorem wX{nd nr:Int}(hp:∀k:Nat,k<N->pl.has k):∀(c:List II) (n:Nat),n+J c<=N->(∀(i:Nat) (x:II),c[i]? =some x->x.ok nd nr (n+i))->fY (j6 nd nr pl c n)
 |[],_,_,_=>dJ
 |x::c,n,hn,h=>by
  simp only[aE]at hn;refine dV (LA hp O (by have:=h 0 x I;omega)) (wX hp c (n+1) O (λi y hy=>?_));have:=h (i+1) y Do
  grind
end
section
attribute [local irreducible] UL bM
structure HM.ok(m:HM):Prop where
 rl:J m.Tb=16
 wl:J m.words=256
 r:r64 m.Tb
 w:VO m.words
 pc:0<=m.pc
theorem hdo_ok{i:HI}{m:HM}(hi:i.TF)(h:m.ok):(V0 i m).2.ok:=by
 have hset:∀(n:Nat) (v:Int),(0<=v/\v<=18446744073709551615)->HM.ok ⟨m.Tb.set n v,m.words,m.pc+1⟩:=λn v hv=>
  ⟨by grind [h.rl],h.wl,λx hx=>by rcases Dm hx with q|q;exact h.r x q;omega,h.w,by grind [h.pc]⟩
 have hnx:HM.ok ⟨m.Tb,m.words,m.pc+1⟩:=⟨h.rl,h.wl,h.r,h.w,by grind [h.pc]⟩;obtain⟨i1,i2⟩:=hi.imm;unfold V0;cases i.op==0 with
 |true=>exact hnx
 |false=>cases i.op==1 with
  |true=>grind
  |false=>cases i.op==14||i.op==15 with
   |true=>
    cases decide ((J m.words:Int)<=qk m.Tb i)with
    |true=>exact h
    |false=>cases i.op==14 with
     |true=>grind [iI,h.w,qk]
     |false=>exact⟨h.rl,by grind [h.wl],h.r,λx hx=>by rcases Dm hx with q|q;exact h.w x q;rw[q];exact I6 _,by grind [h.pc]⟩
   |false=>cases i.op==16||i.op==17 with
    |true=>
     refine⟨h.rl,h.wl,h.r,h.w,?_⟩
     grind [h.pc]
    |false=>cases i.op==18 with
     |true=>exact⟨h.rl,h.wl,h.r,h.w,i1⟩
     |false=>grind [GU,yk,h.r]
theorem Fm{C:List HI}{m:HM}(hC:fY C)(h:m.ok):(SW C m).2.ok:=by
 unfold SW;cases hd:decide (m.pc<0)||decide ((J C:Int)<=m.pc)with
 |true=>exact h
 |false=>
  simp only[aY,aa]at hd;have hlt:m.pc.toNat<J C:=by omega
  refine hdo_ok (hC _ ?_) h
  grind
theorem Bb(b:Bool)(w:World):CW prog 346 [.bool b] w (.int .u64 (Va b)):=by
 refine UB func346 ntmps346 ?_;refine yZ ?_ ?_<;>intro hc1
 .subst hc1;refine Ux ?_;exact vB
 subst hc1;refine fC ?_;exact ff
theorem Hs(op a b:Int)(ha:0<=a/\a<=18446744073709551615)(hb:0<=b/\b<=18446744073709551615)(w:World):CW prog 314 [.i op,.int .u64 a,.int .u64 b] w (.int .u64 (kJ op a b)):=by
 refine UB func314 ntmps314 ?_;refine xt ?_;refine ZW ?_ ?_<;>intro hc2
 .refine jE ?_;exact WN
 refine Ul ?_ ?_<;>intro hc4
 .refine Ut ?_;refine kR ?_;exact Wr
 refine Ul ?_ ?_<;>intro hc6
 .refine Ut ?_;refine sT ?_;exact Wr
 refine Ul ?_ ?_<;>intro hc8
 .refine nR ?_;exact WN
 refine Ul ?_ ?_<;>intro hc10
 .refine nR ?_;exact WN
 refine Ul ?_ ?_<;>intro hc12
 .refine nR ?_;exact WN
 refine Ul ?_ ?_<;>intro hc14
 .refine Ut ?_;refine Ik ?_;exact Wr
 refine Ul ?_ ?_<;>intro hc16
 .refine Ut ?_;refine F8 ?_;exact Wr
 refine Ul ?_ ?_<;>intro hc18
 .refine Ut ?_;refine Zy (fL ne ne I) ?_;exact Wr
 refine Ul ?_ ?_<;>intro hc20
 .refine Vl ?_ ?_<;>intro hc21
  .refine jE ?_;exact WN
  have hb0:b≠0:=ne_of_beq_false hc21;refine UA ?_;refine Zy (jW (Zv I) (Zv I) O I) ?_;exact Wr
 refine Ul ?_ ?_<;>intro hc24
 .refine Uu ?_;refine UD (λw hi=>Bb _ w) ?_;exact Wr
 refine UG ?_;refine UD (λw hi=>Bb _ w) ?_;refine Ut ?_;refine VW ?_;exact WN
abbrev hmF(bm bw:Nat)(Ac:Oa)(cc:Nat)(C:List HI)(m:HM):List bH:=[fQ bm bw Ac (J C) cc m.Tb m.pc,VL bw m.words,Wu Ac cc C]
theorem hnew_ok(w:World):Uz prog 189 [.i 256] w [] (λv cs=>∃bm bw,v= .tuple #[.p bm,.i 0]/\cs=[fQ bm bw none 0 0 (R9 16 0) 0,VL bw (R9 256 0)]):=by
 refine UB func189 ntmps189 ?_;refine vY ?_;refine jn ?_;refine Uu ?_;refine gJ (jT (bytes:=4) (n:=256) I I I I I I I O gI) I ?_;rintro _ _ ⟨b11,rfl,rfl⟩;refine ZA ?_;refine ZO λb13=>?_
 rw[pm];refine iH [fQ b13 b11 none 0 0 (R9 16 0) 0,VL b11 (R9 256 0)] Zj (Uu ?_);exact vL (cs':=[row _ _ _,slv _ _ _ _ _ _]) (.inl I) Zu I I I pF
section
variable(bm bw:Nat)(Ac:Oa)(n cc:Nat)(R W:Li)(pc:Int)
theorem Ba(hR:J R=16)(w:World)(h:(fQ bm bw Ac n cc R pc).ok w):CW prog 239 [.p bm] w (.i 256):=by
 refine UB func239 ntmps239 ?_;refine eK ?_;exact dW (bL ir ne) (cS h (Nr hR)) I vG
theorem Fl(hR:J R=16)(hW:J W=256)(k:Nat)(hk:k<256)(w:World)(h:(fQ bm bw Ac n cc R pc).ok w)(h2:(VL bw W).ok w):CW prog 244 [.p bm,.i k] w (.w (W.getD k 0)):=by
 have hx:W[k]? =some (W.getD k 0):=by rw[aM,aj O];rfl
 refine UB func244 ntmps244 ?_;refine oQ ?_;refine i5 (bU I I) (bL ir (cU I)) (cS h (Nr hR)) I (Uu ?_);refine cG I (Do) (Ux ?_);refine dW (bL ir ne) (cS h (Nr hR)) I (ZA ?_);refine BR ?_;exact dW (bL ir ne) (dG (de h2) (bX hx)) I oR
theorem rj(hR:J R=16)(hW:J W=256)(k:Nat)(hk:k<256)(v:Int):CI prog 240 [.p bm,.i k,.w v] [fQ bm bw Ac n cc R pc,VL bw W] (λx cs=>x= .bool true/\cs=[fQ bm bw Ac n cc R pc,VL bw (W.set k v)]):=λw hi=>by
 refine UH func240 ntmps240 hi ?_;refine oQ ?_;refine i5 (bU I I) (bL ir (cU I)) (cO Zh (Nr hR)) I (Uu ?_);refine cG I (Do) (Ux ?_);refine dW (bL ir ne) (cO Zh (Nr hR)) I (py ?_);refine XM ?_;refine Uw ?_;rw[eh];refine UG ?_;refine Vd ([row _ _ _,slv _ _ _ _ _ _]) ?_;exact ff
theorem Ls(hR:J R=16)(hW:J W=256)(f:Nat)(hf:f<=100)(A:Oa)(c:Nat)(l:Li)(hl:J l<=16)(w:World)(hi:Inv w (bK [fQ bm bw Ac n cc R pc,VL bw W]) [fQ bm bw Ac n cc R pc,VL bw W] w)
  (h:∀w',cX (bK [fQ bm bw Ac n cc R pc,VL bw W]) w w'->Rd w' .u32 A (J l) c l):
  Uz prog 241 [.p bm,.i f,.slice A (J l) c] w [fQ bm bw Ac n cc R pc,VL bw W] (λx cs=>cs=[fQ bm bw Ac n cc R pc,VL bw (j7 W f l 16)]):=by
 have h0:=h w (cX.refl _ _);refine UH func241 ntmps241 hi ?_;refine UA ?_;refine UX (λk:Nat=>[(0,.p bm),(1,.i f),(2,.slice A (J l) c),(8,.i (k:Int))]) (λk=>[fQ bm bw Ac n cc R pc,VL bw (j7 W f l k)]) (λk=>k<=16) (λk=>16 - k) (0) O ?_;rintro k hk;have hlk:J (j7 W f l k)=256:=(by rw[lY,hW]);refine Ul ?_ ?_<;>intro hc1
 .simp only[ah]at hc1;refine oQ ?_;refine cq (λ_:Unit=>[(0,.p bm),(1,.i f),(2,.slice A (J l) c),(6,.i (k:Int)),(7,.w (l.getD k 0)),(8,.i (k:Int))]) (λ_=>[fQ bm bw Ac n cc R pc,VL bw (j7 W f l k)]) (λ_=>True) ?_ ?_
  .refine V1 ?_ ?_<;>intro hc4
   .simp only[ah]at hc4;obtain⟨ad,rfl⟩:=h0.some_ O;have hx:l[k]? =some (l.getD k 0):=Do;refine Us ?_;refine BR ?_;refine dW (bL ir ne) (oq h (bX hx)) I (py ?_);refine Vo (()) iF
   simp only[aa]at hc4;have e0:l.getD k 0=0:=Do;rw[e0];refine Zc (Vo (()) iF)
  rintro - -;refine Ut ?_;refine Zy (dr (Zv I) (Zv I) (show _=((f+k:Nat):Int)from by rw[aN _ ⟨by omega,by omega⟩];omega)) ?_;refine ZA ?_;refine U5 ([fQ bm bw Ac n cc R pc,VL bw (j7 W f l k)]) (λw hi hin=>rj bm bw Ac n cc R (j7 W f l k) pc hR hlk (f+k) O (l.getD k 0) w hin) ?_;exact Wf
 simp only[aa]at hc1;obtain rfl:k=16:=by omega
 refine Ut ?_;exact gK (cs':=[row _ _ _,slv _ _ _ _ _ _]) (.inr I) Zu I I
end
theorem hput_ok(bm bw:Nat)(s:St)(hs:s.right=true)(hw:s.wf)(Ad Ar:Oa)(cd cr:Nat)(w:World)(hi:Inv w (bK [fQ bm bw none 0 0 (R9 16 0) 0,VL bw (R9 256 0)]) [fQ bm bw none 0 0 (R9 16 0) 0,VL bw (R9 256 0)] w)
  (h:∀w',cX (bK [fQ bm bw none 0 0 (R9 16 0) 0,VL bw (R9 256 0)]) w w'->kS w' s Ad Ar cd cr):
  Uz prog 190 [.p bm,sv s Ad cd Ar cr] w [fQ bm bw none 0 0 (R9 16 0) 0,VL bw (R9 256 0)] (λx cs=>x= .bool true/\cs=[fQ bm bw none 0 0 (R9 16 0) 0,VL bw (Tm s)]):=by
 have hR:J (R9 16 (0:Int))=16:=aB;obtain⟨R,hRe⟩:=Uk (R9 16 (0:Int));have hpw:Tm s=(j7 (j7 (((((R9 256 (0:Int)).set 0 s.pc).set 1 s.flags).set 2 (J s.d:Int)).set 3 (J s.r:Int)) 4 s.d 16) 20 s.r 16).set 36 0:=rfl;have hW0:J (R9 256 (0:Int))=256:=aB;obtain⟨W0,hWe⟩:=Uk (R9 256 (0:Int));rw[hWe]at hW0 hpw hi h|-;rw[hRe]at hR hi h|-;rw[hpw];obtain⟨hd16,hr16, -⟩:=St.fits hs;have HR:=oe s;rw[hs]at HR;have hW1:J (W0.set 0 s.pc)=256:=by rw[List.length_set,hW0]
 have hW2:J ((W0.set 0 s.pc).set 1 s.flags)=256:=by rw[List.length_set,hW1]
 have hW3:J (((W0.set 0 s.pc).set 1 s.flags).set 2 (J s.d:Int))=256:=by rw[List.length_set,hW2]
 have hW4:J ((((W0.set 0 s.pc).set 1 s.flags).set 2 (J s.d:Int)).set 3 (J s.r:Int))=256:=by rw[List.length_set,hW3]
 have HL1:=Ls bm bw none 0 0 R _ 0 hR hW4 4 An Ad cd s.d hd16;obtain⟨W4,hW4e⟩:=Uk ((((W0.set 0 s.pc).set 1 s.flags).set 2 (J s.d:Int)).set 3 (J s.r:Int));rw[hW4e]at hW4 HL1|-;have hW5:J (j7 W4 4 s.d 16)=256:=by rw[lY,hW4]
 have HL2:=Ls bm bw none 0 0 R _ 0 hR hW5 20 An Ar cr s.r hr16;have hW6:J (j7 (j7 W4 4 s.d 16) 20 s.r 16)=256:=by rw[lY,hW5]
 refine UH func190 ntmps190 hi ?_;refine py ?_;refine ZO λb3=>?_;refine eK ?_;refine kt (bU I I) I (dQ I (λ_ _=>I) (λw hi=>Ba bm bw none 0 0 R 0 hR w (hi.get Zh))) I ?_;refine Vb ?_;refine Us ?_;refine i6 (bU I I) Zh ir ir (Zv I) I (kt (bU I I) I (dQ I (λ_ _=>I) (λw hi=>HR Ad Ar cd cr w)) I ?_);refine Vb ?_;refine Ut ?_;refine jn ?_;refine Ux ?_;refine U5 ([fQ bm bw none 0 0 R 0,VL bw W0]) (λw hi hin=>rj bm bw none 0 0 R W0 0 hR hW0 0 An s.pc w hin) ?_;refine Ux ?_;refine U5 ([fQ bm bw none 0 0 R 0,VL bw (W0.set 0 s.pc)]) (λw hi hin=>rj bm bw none 0 0 R _ 0 hR hW1 1 An s.flags w hin) ?_;refine UG ?_;refine Zy (cA I I (Zv I) MT) ?_;refine U5 ([fQ bm bw none 0 0 R 0,VL bw ((W0.set 0 s.pc).set 1 s.flags)]) (λw hi hin=>rj bm bw none 0 0 R _ 0 hR hW2 2 An (J s.d:Int) w hin) ?_;refine UG ?_;refine Zy (cA I I (Zv I) MT) ?_;refine U5 ([fQ bm bw none 0 0 R 0,VL bw (((W0.set 0 s.pc).set 1 s.flags).set 2 (J s.d:Int))]) (λw hi hin=>rj bm bw none 0 0 R _ 0 hR hW3 3 An (J s.r:Int) w hin) ?_;rw[hW4e];refine Ux ?_;refine V7 ([fQ bm bw none 0 0 R 0,VL bw W4]) (λw hi hin=>HL1 w hin (λw' hk=>(h w' (hi.TR (λc hc=>by simp only[aI,aV,or_false]at hc;rcases hc with rfl|rfl;exact UQ.mem (Ur _);exact UQ.mem (Ur _)) hk)).d)) ?_;rintro _ _ ⟨_,rfl,rfl⟩;refine Ux ?_;refine V7 ([fQ bm bw none 0 0 R 0,VL bw (j7 W4 4 s.d 16)]) (λw hi hin=>HL2 w hin (λw' hk=>(h w' (hi.TR (λc hc=>by simp only[aI,aV,or_false]at hc;rcases hc with rfl|rfl;exact UQ.mem (Ur _);exact UQ.mem (Ur _)) hk)).r)) ?_;rintro _ _ ⟨_,rfl,rfl⟩;refine Uu ?_;refine U5 ([fQ bm bw none 0 0 R 0,VL bw (j7 (j7 W4 4 s.d 16) 20 s.r 16)]) (λw hi hin=>rj bm bw none 0 0 R _ 0 hR hW6 36 An 0 w hin) ?_;refine UG ?_;refine Vd ([row _ _ _,slv _ _ _ _ _ _]) ?_;exact ff
theorem PF(bm bw:Nat)(R W:Li)(hR:J R=16)(A:Oa)(c:Nat)(C:List HI)(hg:fY C)(hl:J C<=100000)(w:World)(hi:Inv w (bK [fQ bm bw none 0 0 R 0,VL bw W]) [fQ bm bw none 0 0 R 0,VL bw W] w)
  (h:∀w',cX (bK [fQ bm bw none 0 0 R 0,VL bw W]) w w'->Rd w' .u8 A (J (cD C)) c (cD C)):
  Uz prog 191 [.p bm,.slice A (J (cD C)) c] w [fQ bm bw none 0 0 R 0,VL bw W] (λx cs=>∃Ac cc,x= .i 0/\cs=hmF bm bw Ac cc C ⟨R,W,0⟩):=by
 refine UH func191 ntmps191 hi ?_;refine UG ?_;refine UW (λw hi=>hall_ok A c C hg hl w (h w hi.S1)) ?_;rintro _ _ ⟨Ac,cc,rfl,rfl⟩;refine qB ?_;refine UE ?_;refine et (iJ ir I I I Za (by rw[RX hR];omega)) ?_;refine Uw ?_;rw[hm_setc hR];refine py ?_;refine et (iJ ir I I I Za (by rw[RX hR];omega)) ?_;refine Uw ?_;rw[Lr hR];refine UG ?_;refine IM ?_;exact⟨Ac,cc,I,I⟩
end
end Go.Ink
namespace Go.Ink
open List renaming length→J, replicate→R9
open IntKind renaming wrap→V9
open Go.RowKit Go.Proofs.Tryz
section
attribute [local irreducible] UL bM
theorem JC{w0:World}{S:List Nat}{cs:List bH}{e sz n c b:Nat}{ad:Addr}{xs vs:List Value}(hc:UQ cs (slv e sz (some ad) n c xs))(hv:∀j v,vs[j]? =some v->xs[b+j]? =some v):∀w,Inv w0 S cs w->cells (eX (ad.add b) 0 vs) w:=λw hi=>
 ln λj v hj=>by
  rw[Nat.add_zero];exact(hi.rd hc).at_ ad I (b+j) v (hv j v hj)
theorem MB(A A2:Oa)(c c2:Nat)(xs ys:Li)(hx:UO xs)(hy:UO ys)(w:World)(h:Rd w .u8 A (J xs) c xs)(h2:Rd w .u8 A2 (J ys) c2 ys):
  CW prog 224 [.slice A (J xs) c,.slice A2 (J ys) c2] w (.bool (xs==ys)):=by
 refine UB func224 ntmps224 ?_;refine UG ?_;refine eZ (λw hi=>kA (h.SS hi)) (λhrd6=>?_);refine dW (kq I I I ne hrd6) (λw hi=>UJ.S7 (h.SS hi)) I (ZA ?_);refine eZ (λw hi=>kA (h2.SS hi)) (λhrd8=>?_);refine dW (kq I I I ne hrd8) (λw hi=>UJ.S7 (h2.SS hi)) I (Zy (pL I (Zv I) (Zv I) (pY hx hy)) ?_);exact oR
abbrev Vw.cells(v:Vw)(Y:ν):List Value:=v.s.cells (.slice Y.X.Ad (J v.s.d) Y.X.cd) (.slice Y.X.Ar (J v.s.r) Y.X.cr)++[.slice Y.Am (J v.m) Y.cm,.slice Y.Ao (J v.o) Y.co,.slice Y.Ai (J v.i) Y.ci,.slice Y.Ak (J v.k) Y.ck,.w v.SU,.w v.mask,.bool v.killed]
structure Vw.wf(v:Vw):Prop where
 s:v.s.wf
 m:UO v.m
 o:UO v.o
 i:UO v.i
 k:UO v.k
structure Nv(w:World)(v:Vw)(Y:ν):Prop where
 s:kS w v.s Y.X.Ad Y.X.Ar Y.X.cd Y.X.cr
 m:Rd w .u8 Y.Am (J v.m) Y.cm v.m
 o:Rd w .u8 Y.Ao (J v.o) Y.co v.o
 i:Rd w .u8 Y.Ai (J v.i) Y.ci v.i
 k:Rd w .u8 Y.Ak (J v.k) Y.ck v.k
theorem Nv.SS{w0 w:World}{cs:List bH}{v:Vw}{Y:ν}(h:Nv w0 v Y)(hi:Inv w0 [] cs w):Nv w v Y:=⟨h.s.SS hi,h.m.SS hi,h.o.SS hi,h.i.SS hi,h.k.SS hi⟩
abbrev BSl.v(x:BSl):Value:= .slice x.A (J x.l) x.c
abbrev ISl.v(x:ISl):Value:= .slice x.A (J x.l) x.c
abbrev ISl.cells(x:ISl):List Value:=[x.v]
theorem ql(n:Nat)(hn:n<=4611686018427387904)(w:World):CW prog 112 [.i n] w (.i (((n+63)/64:Nat):Int)):=by
 refine UB func112 ntmps112 ?_;refine UG ?_;refine mT ?_;refine rL ?_;refine Zy (jW (Zv I) (Zv I) O (show _=(((n+63)/64:Nat):Int)from by rw[IntWalk.i64_quo _ _ ⟨by omega,by omega,by omega⟩];omega)) ?_;exact oR
end
section
open Go.MapKept
open Go.ChangeMaps (setBlock)
open Go.Maps (Keyed)
def dP{β:Type}(L:List (Ky×β))(k:Ky)(v:β):List (Ky×β):=match cK (·.1) k L with
 |some j=>L.set j (k,v)
 |none=>L++[(k,v)]
def fX{β:Type}(L:List (Ky×β))(k:Ky)(z:β):β:=((L.find? λx=>x.1==k).map (·.2)).getD z
def p8{β:Type}(L:List (Ky×β))(k:Ky):List (Ky×β):=match cK (·.1) k L with
 |some j=>L.eraseIdx j
 |none=>L
theorem iu{α:Type}{key:α->Ky}{k:Ky}{l:List α}(h:cK key k l=none):∀x,x∈l->key x≠k:=by
 grind [cK]
theorem AG{α:Type}{key:α->Ky}{k:Ky}{l:List α}(h:∀x,x∈l->key x≠k):cK key k l=none:=by
 grind [cK]
theorem ko{α β:Type}{key:α->Ky}{key':β->Ky}(f:α->β)(hf:∀x,key' (f x)=key x)(k:Ky)(l:List α):cK key' k (l.map f)=cK key k l:=by
 unfold cK;rw[List.findIdx?_map];congr 1
 grind
theorem qU{β:Type}{L:List (Ky×β)}{k:Ky}{j:Nat}(h:cK (·.1) k L=some j){v:β}(hv:L[j]? =some (k,v))(z:β):fX L k z=v:=by
 grind [cK,fX,List.findIdx?_eq_some_iff_getElem,List.getElem?_eq_getElem,List.find?_eq_some_iff_getElem]
theorem uj{β:Type}{L:List (Ky×β)}{k:Ky}(h:cK (·.1) k L=none)(z:β):fX L k z=z:=by
 grind [fX,iu]
theorem yd{α β:Type}(f:α->β)(L:List (Ky×α))(k:Ky)(z:α):fX (L.map λx=>(x.1,f x.2)) k (f z)=f (fX L k z):=by
 unfold fX;rw[List.find?_map];have:((λx:Ky×β=>x.1==k)∘λx:Ky×α=>(x.1,f x.2))=λx=>x.1==k:=I
 rw[this];cases L.find? (λx=>x.1==k)<;>rfl
theorem EO{α β:Type}(f:α->β)(L:List (Ky×α))(k:Ky)(v:α):dP (L.map λx=>(x.1,f x.2)) k (f v)=(dP L k v).map λx=>(x.1,f x.2):=by
 unfold dP;rw[ko (key:=λx:Ky×α=>x.1) (λx:Ky×α=>(x.1,f x.2)) ir]
 grind [cK,List.map_set]
def nV(b:Nat)(L:List (Ky×Value))(w:World):Prop:=∃es clock,w.heap[b]? =some (.map es clock)/\Stamped es clock/\(es.toList.map λe=>(e.key,e.val))=(L.map λx=>(Vj x.1,x.2))/\∀x,x∈L->lA x.1
abbrev VG(b:Nat)(L:List (Ky×Value)):bH:= .gen [b] (nV b L)
 (λw w' h hk=>by obtain⟨es,cl,h1,h2⟩:=hk;exact⟨es,cl,(h b (by simp)).trans h1,h2⟩)
 (λw hk b' hb=>by obtain⟨es,cl,h1,_⟩:=hk;grind)
theorem nF{w w':World}{bs:List Nat}{c':bH}(hk:cX bs w w')(hn:c'.bs.Nodup)(hok:c'.ok w')(hsub:∀b,b∈c'.bs->b∈bs\/w.heap.size<=b):Inv w bs [c'] w':=
 ⟨hk,by grind [bK],λc hc=>by grind,λb hb=>hsub b (by grind [bK])⟩
theorem Ym{es:Array MapEntry}{L:List (Ky×Value)}(h:(es.toList.map λe=>(e.key,e.val))=(L.map λx=>(Vj x.1,x.2))){j:Nat}{e:MapEntry}(he:es.toList[j]? =some e):∃q,L[j]? =some (q,e.val)/\e.key=Vj q:=by
 have h1:=congrArg (λl=>l[j]?) h
 grind
theorem LY{es:Array MapEntry}{L:List (Ky×Value)}(h:(es.toList.map λe=>(e.key,e.val))=(L.map λx=>(Vj x.1,x.2))){j:Nat}{x:Ky×Value}(he:L[j]? =some x):∃e,es.toList[j]? =some e/\e.key=Vj x.1/\e.val=x.2:=by
 have h1:=congrArg (λl=>l[j]?) h
 grind
theorem oF{es:Array MapEntry}{clock:Nat}(h:Stamped es clock){i j:Nat}{e f:MapEntry}(hi:es.toList[i]? =some e)(hj:es.toList[j]? =some f)(hk:e.key=f.key):i=j:=by
 obtain⟨h1,e1⟩:=ap.1 hi;obtain⟨h2,e2⟩:=ap.1 hj;exact(List.getElem_inj (xs:=es.toList.map (·.key)) (h₀:=by grind) (h₁:=by grind) h.2.2).1 Do
section
variable{P:Program}{k e:TypeId}{T:TypeId}{w:World}{b:Nat}{L:List (Ky×Value)}{q:Ky}{es:Array MapEntry}{clock:Nat}
theorem rB(hK:rQ P k)(hs:Stamped es clock)(hL:(es.toList.map λe=>(e.key,e.val))=(L.map λx=>(Vj x.1,x.2)))(hok:∀x,x∈L->lA x.1)(hq:lA q)(w:World):
  (cK (·.1) q L=none/\(Instr.findKey k (Vj q) es.toList).run P w= .ok none w/\∀x∈es.toList,x.key≠Vj q)\/
  ∃j e,cK (·.1) q L=some j/\(Instr.findKey k (Vj q) es.toList).run P w= .ok (some (j,e.val)) w/\es.toList[j]? =some e/\e.key=Vj q/\L[j]? =some (q,e.val):=by
 obtain⟨lq,hlq⟩:=hK.at_ q hq;have hkeys:∀e∈es.toList,∃l,keyOf P k e.key=some l:=λe he=>by
  obtain⟨j,hj⟩:=List.getElem?_of_mem he;obtain⟨p,hp,hpe⟩:=Ym hL hj;rw[hpe];exact hK.at_ p (hok _ (az hp))
 rcases hK.K.find w hlq es.toList hkeys with⟨h1,h2⟩|⟨j,e,h1,h2,h3⟩
 .grind [AG,LY,List.getElem?_of_mem,List.mem_of_getElem?]
 obtain⟨p,hp,hpe⟩:=Ym hL h2;obtain rfl:p=q:=kyV_inj (hpe.symm.trans h3);refine Or.inr ⟨j,e,?_,h1,h2,h3,hp⟩;cases hpl:cK (·.1) p L with
 |none=>grind [iu]
 |some i=>
  obtain⟨hi,hik⟩:=fj hpl;obtain⟨f,hf,hfk, -⟩:=LY hL (aj hi)
  grind [oF]
theorem Pb(hT:P.underlying T=some (.map k e))(hK:rQ P k){z:Value}(hz:(zeroValue e).run P w= .ok z w)(hq:lA q)(h:nV b L w)(c:Bool):
  (Instr.lookup T (.map (some b)) (Vj q) c).run P w= .ok (if c then .tuple #[fX L q z,.bool (cK (·.1) q L).isSome]else fX L q z) w:=by
 obtain⟨es,clock,hb,hs,hL,hok⟩:=h;obtain⟨lq,hlq⟩:=hK.at_ q hq;rcases rB hK hs hL hok hq w with⟨h1,h2,h3⟩|⟨j,e0,h1,h2,h3,h4,h5⟩
 .rw[uj h1,h1];cases c<;>simp[Instr.lookup,run_underlying hT,MapKept.run_getObj_map hb,hK.K.check w _ hlq,h2,hz,Result.andThen]
 rw[qU h1 h5,h1];cases c<;>simp[Instr.lookup,run_underlying hT,MapKept.run_getObj_map hb,hK.K.check w _ hlq,h2,Result.andThen]
theorem put_run(hT:P.underlying T=some (.map k e))(hK:rQ P k)(hq:lA q)(h:nV b L w)(v:Value):
  ∃w',(Instr.mapUpdate T (.map (some b)) (Vj q) v).run P w= .ok () w'/\cX [b] w w'/\nV b (dP L q v) w':=by
 obtain⟨es,clock,hb,hs,hL,hok⟩:=h;obtain⟨lq,hlq⟩:=hK.at_ q hq;rcases rB hK hs hL hok hq w with⟨h1,h2,h3⟩|⟨j,e0,h1,h2,h3,h4,h5⟩
 .refine⟨setBlock w b (.map (es.push ⟨Vj q,v,clock⟩) (clock+1)),?_,gf hb,_,_,(heap_set hb).1,stamped_push hs h3,?_,?_⟩
  .simp[Instr.mapUpdate,run_underlying hT,MapKept.run_getObj_map hb,hK.K.check w false hlq,h2,MapKept.run_setObj_map _ hb,Result.andThen,setBlock]
  .grind [dP]
  grind [dP]
 have hj:es[j]? =some e0:=by simpa using h3
 have hkeyf:∀e',es[j]? =some e'->({e' with key:=Vj q,val:=v}:MapEntry).key=e'.key:=λe' he'=>by grind
 refine⟨setBlock w b (.map (es.modify j λe'=>{e' with key:=Vj q,val:=v}) clock),?_,gf hb,_,_,(heap_set hb).1,stamped_modify hs _ _ (λ_ _=>I) (λe' _ he'=>hkeyf e' he'),?_,?_⟩
 .simp[Instr.mapUpdate,run_underlying hT,MapKept.run_getObj_map hb,hK.K.check w false hlq,h2,hj,h4,hK.K.stays w hlq,MapKept.run_setObj_map _ hb,Result.andThen,setBlock]
 .simp_all [dP,ChangeMaps.modify_eq_set]
 grind [dP]
theorem del_run(hT:P.underlying T=some (.map k e))(hK:rQ P k)(hq:lA q)(h:nV b L w)(ty:TypeId):
  ∃w',(Builtin.delete_ #[T,k] ty #[.map (some b),Vj q]).run P w= .ok (.tuple #[]) w'/\cX [b] w w'/\nV b (p8 L q) w':=by
 obtain⟨es,clock,hb,hs,hL,hok⟩:=h;obtain⟨lq,hlq⟩:=hK.at_ q hq;rcases rB hK hs hL hok hq w with⟨h1,h2,h3⟩|⟨j,e0,h1,h2,h3,h4,h5⟩
 .refine⟨setBlock w b (.map es clock),?_,gf hb,_,_,(heap_set hb).1,hs,?_,?_⟩
  .exact Rp
  .grind [p8]
  grind [p8]
 have hjl:=(ap.1 h3).1;refine⟨setBlock w b (.map (es.eraseIdxIfInBounds j) clock),?_,gf hb,_,_,(heap_set hb).1,stamped_erase hs j,?_,?_⟩
 .exact Rp
 .grind [p8,sr,ChangeMaps.map_eraseIdx]
 grind [p8,List.eraseIdx_sublist]
end
def zo(b r:Nat)(L:List (Bool×Ky×Value))(cur:Option (Ky×Value))(w:World):Prop:=
 ∃es clock since seen c0,w.heap[b]? =some (.map es clock)/\Stamped es clock/\w.heap[r]? =some (.mapIter (some b) since seen c0)/\(∀x∈es.toList,x.born<since)/\since<=c0/\since<=clock/\
  (es.toList.map λe=>(seen.contains e.born,e.key,e.val))=(L.map λx=>(x.1,Vj x.2.1,x.2.2))/\(∀x,x∈L->lA x.2.1)/\b≠r/\
  ∀q v,cur=some (q,v)->c0=clock/\∃e∈es.toList,∃sn:Array Nat,seen=sn.push e.born/\e.key=Vj q/\e.val=v
abbrev WG(b r:Nat)(L:List (Bool×Ky×Value))(cur:Option (Ky×Value)):bH:= .gen [b,r] (zo b r L cur)
 (λw w' h hk=>by obtain⟨es,cl,si,se,c0,h1,h2,h3,h4⟩:=hk;exact⟨es,cl,si,se,c0,(h b (by simp)).trans h1,h2,(h r (by simp)).trans h3,h4⟩)
 (λw hk b' hb=>by
  obtain⟨es,cl,si,se,c0,h1,h2,h3,h4⟩:=hk
  grind)
def G8(o:IF):List Value:=match o with|none=>[.bool false]|some (_,q,v)=>[.bool true,Vj q,v]
def Df(L:List (Bool×Ky×Value))(o:IF):List (Bool×Ky×Value):=match o with|none=>L|some (j,q,v)=>L.set j (true,q,v)
def Kt(o:IF):Option (Ky×Value):=o.map (·.2)
def RO(L:List (Bool×Ky×Value))(o:IF):Prop:=match o with|none=>∀x,x∈L->x.1=true|some (j,q,v)=>L[j]? =some (false,q,v)
variable{b r:Nat}{L:List (Bool×Ky×Value)}{cur:Option (Ky×Value)}{w:World}
theorem RW(h:zo b r L cur w):nV b (L.map (·.2)) w:=by
 obtain⟨es,clock,since,seen,c0,hb,hs,hr,hold,hsc,hsk,hL,hok,hne,hcur⟩:=h;refine⟨es,clock,hb,hs,?_,λx hx=>?_⟩
 .exact YR
 grind
theorem OM{P:Program}(h:zo b r L cur w)(ty:TypeId):
  ∃o w',RO L o/\(Instr.next (.p r) false ty).run P w= .ok (.tuple (G8 o).toArray) w'/\cX [b,r] w w'/\zo b r (Df L o) (Kt o) w':=by
 obtain⟨es,clock,since,seen,c0,hb,hs,hr,hold,hsc,hsk,hL,hok,hne,hcur⟩:=h;rcases run_next_at (P:=P) w ty r b since c0 seen es clock hr hb hold hsc with⟨h0,jU⟩|⟨e,he,w1,hal,jU⟩
 .refine⟨none,w,λx hx=>?_,jU,cX.refl _ _,es,clock,since,seen,c0,hb,hs,hr,hold,hsc,hsk,hL,hok,hne,λq v e=>by cases e⟩;have ha:=all_seen es seen h0;obtain⟨j,hj⟩:=List.getElem?_of_mem hx;have h1:=congrArg (λl=>l[j]?) hL
  grind
 obtain⟨hem,hes⟩:=mem_left he;obtain⟨j,hj⟩:=List.getElem?_of_mem hem;have h1:=congrArg (λl=>l[j]?) hL;simp only[List.getElem?_map,hj,Option.map_some]at h1;cases hl:L[j]? with
 |none=>grind
 |some x=>
  obtain⟨f,q,v⟩:=x;rw[hl]at h1;simp only[Option.map_some,aW,aD]at h1;obtain⟨h1,h2,h3⟩:=h1;rw[hes]at h1;subst h1 h3;have hr1:w1.heap[r]? =some (.mapIter (some b) since seen c0):=by rcases hal with rfl|rfl<;>exact hr
  have hb1:w1.heap[b]? =some (.map es clock):=by rcases hal with rfl|rfl<;>exact hb
  have hset:=heap_set (o':= .mapIter (some b) since (seen.push e.born) clock) hr1;have hkp:cX [b,r] w (setBlock w1 r (.mapIter (some b) since (seen.push e.born) clock)):=by
   have hk1:=gf (o':= .mapIter (some b) since (seen.push e.born) clock) hr1;rcases hal with rfl|rfl<;>exact⟨I,I,I,hk1.size,λi hi hn=>hk1.block i hi (by simp at hn|-;omega)⟩
  refine⟨some (j,q,e.val),_,hl,by rw[jU,h2];rfl,hkp,es,clock,since,seen.push e.born,clock,(hset.2 b hne).trans hb1,hs,hset.1,hold,hsk,hsk,?_,λx hx=>?_,hne,λq' v' e'=>?_⟩
  .show _=(L.set j (true,q,e.val)).map _;rw[List.map_set,<-hL];apply List.ext_getElem?;intro i;rw[List.getElem?_map,List.getElem?_set];by_cases hij:j=i
   .grind
   rw[if_neg hij,List.getElem?_map];cases hi:es.toList[i]? with
   |none=>rfl
   |some x=>
    have hxb:(x.born==e.born)=false:=by
     rw[bE];intro hbe;have:=born_inj hs.2.1 (az hi) hem hbe;subst this;exact hij (oF hs hj hi I)
    grind
  .rcases List.mem_or_eq_of_mem_set hx with hx|rfl
   .grind
   grind
  grind [Kt]
theorem L1{P:Program}{q:Ky}{v:Value}(h:zo b r L (some (q,v)) w):(Instr.entry (.p r)).run P w= .ok (.tuple #[Vj q,v]) w:=by
 obtain⟨es,clock,since,seen,c0,hb,hs,hr,hold,hsc,hsk,hL,hok,hne,hcur⟩:=h;obtain⟨rfl,e,he,sn,rfl,h1,rfl⟩:=hcur q v I;rw[<-h1];exact run_entry_at w r b since sn es c0 e hr hb he hs.2.1
def vU(L:List (Bool×Ky×Value))(q:Ky):List (Bool×Ky×Value):=match cK (·.2.1) q L with
 |some j=>L.eraseIdx j
 |none=>L
section
variable{P:Program}{k e:TypeId}{T:TypeId}{w:World}{b r:Nat}{L:List (Bool×Ky×Value)}{cur:Option (Ky×Value)}{q:Ky}
theorem La(hT:P.underlying T=some (.map k e))(hK:rQ P k)(hq:lA q)(h:zo b r L cur w)(ty:TypeId):
  ∃w',(Builtin.delete_ #[T,k] ty #[.map (some b),Vj q]).run P w= .ok (.tuple #[]) w'/\cX [b,r] w w'/\zo b r (vU L q) none w':=by
 have hm:=RW h;obtain⟨es,clock,since,seen,c0,hb,hs,hr,hold,hsc,hsk,hL,hok,hne,hcur⟩:=h;obtain⟨lq,hlq⟩:=hK.at_ q hq;have hL2:(es.toList.map λe=>(e.key,e.val))=((L.map (·.2)).map λx=>(Vj x.1,x.2)):=by
  exact YR
 have hok2:∀x,x∈L.map (·.2)->lA x.1:=λx hx=>by grind
 have hpl:cK (·.1) q (L.map (·.2))=cK (·.2.1) q L:=ko (key:=λx:Bool×Ky×Value=>x.2.1) (key':=λx:Ky×Value=>x.1) (·.2) ir q L;rcases rB hK hs hL2 hok2 hq w with⟨h1,h2,h3⟩|⟨j,e0,h1,h2,h3,h4,h5⟩
 .rw[hpl]at h1;have hk1:=gf (o':= .map es clock) hb;refine⟨setBlock w b (.map es clock),?_,⟨I,I,I,hk1.size,λi hi hn=>hk1.block i hi Do⟩,es,clock,since,seen,c0,(heap_set hb).1,hs,((heap_set hb).2 r hne.symm).trans hr,hold,hsc,hsk,?_,?_,hne,λ_ _ e=>by cases e⟩
  .exact Rp
  .grind [vU]
  grind [vU]
 rw[hpl]at h1;have hjl:=(ap.1 h3).1;have hk1:=gf (o':= .map (es.eraseIdxIfInBounds j) clock) hb;refine⟨setBlock w b (.map (es.eraseIdxIfInBounds j) clock),?_,⟨I,I,I,hk1.size,λi hi hn=>hk1.block i hi Do⟩,es.eraseIdxIfInBounds j,clock,since,seen,c0,(heap_set hb).1,stamped_erase hs j,((heap_set hb).2 r hne.symm).trans hr,?_,hsc,hsk,?_,?_,hne,λ_ _ e=>by cases e⟩
 .exact Rp
 .grind
 .grind [vU,sr,ChangeMaps.map_eraseIdx]
 grind [vU,List.eraseIdx_sublist]
theorem K9(hT:P.underlying T=some (.map k e))(hK:rQ P k)(h:zo b r L cur w){j:Nat}{f:Bool}{v0:Value}(hj:L[j]? =some (f,q,v0))(v:Value):
  ∃w',(Instr.mapUpdate T (.map (some b)) (Vj q) v).run P w= .ok () w'/\cX [b,r] w w'/\zo b r (L.set j (f,q,v)) none w':=by
 obtain⟨es,clock,since,seen,c0,hb,hs,hr,hold,hsc,hsk,hL,hok,hne,hcur⟩:=h;have hq:lA q:=hok _ (az hj);obtain⟨lq,hlq⟩:=hK.at_ q hq;have hL2:(es.toList.map λe=>(e.key,e.val))=((L.map (·.2)).map λx=>(Vj x.1,x.2)):=by
  exact YR
 have hok2:∀x,x∈L.map (·.2)->lA x.1:=λx hx=>by grind
 rcases rB hK hs hL2 hok2 hq w with⟨h1,h2,h3⟩|⟨i,e0,h1,h2,h3,h4,h5⟩
 .grind [iu]
 have hij:i=j:=by
  have hjj:(L.map (·.2))[j]? =some (q,v0):=by rw[List.getElem?_map,hj];rfl
  obtain⟨f1,hf1,hf2, -⟩:=LY hL2 hjj;exact oF hs h3 hf1 (by rw[h4,hf2])
 subst hij;have hji:es[i]? =some e0:=by simpa using h3
 have hkeyf:∀e',es[i]? =some e'->({e' with key:=Vj q,val:=v}:MapEntry).key=e'.key:=λe' he'=>by grind
 have hk1:=gf (o':= .map (es.modify i λe'=>{e' with key:=Vj q,val:=v}) clock) hb;have hset:(es.modify i λe'=>{e' with key:=Vj q,val:=v}).toList=es.toList.set i {e0 with key:=Vj q,val:=v}:=by rw[Array.toList_modify,ChangeMaps.modify_eq_set _ _ _ _ h3]
 refine⟨setBlock w b (.map (es.modify i λe'=>{e' with key:=Vj q,val:=v}) clock),?_,⟨I,I,I,hk1.size,λi hi hn=>hk1.block i hi Do⟩,_,clock,since,seen,c0,(heap_set hb).1,stamped_modify hs _ _ (λ_ _=>I) (λe' _ he'=>hkeyf e' he'),((heap_set hb).2 r hne.symm).trans hr,?_,hsc,hsk,?_,?_,hne,λ_ _ e=>by cases e⟩
 .simp[Instr.mapUpdate,run_underlying hT,MapKept.run_getObj_map hb,hK.K.check w false hlq,h2,hji,h4,hK.K.stays w hlq,MapKept.run_setObj_map _ hb,Result.andThen,setBlock]
 .grind
 .rw[hset,List.map_set,List.map_set,hL];have h6:=congrArg (λl=>l[i]?) hL
  grind
 grind
end
section
variable{C:Cx}{fr:Fr}{d:Option Nat}{T k e:TypeId}{x y:Operand}{ty:TypeId}{pos:String}{af:Array Edge}{gd:Option (Nat×Bool)}{g:Bool}{b:Nat}{L:List (Ky×Value)}{q:Ky}
theorem IT{zv:Value}(hx:Ev fr g x (.map (some b)))(hy:Ev fr g y (Vj q))(hq:lA q)(hT:C.P.underlying T=some (.map k e))(hK:rQ C.P k)(hz:∀w,(zeroValue e).run C.P w= .ok zv w):
  UL C ⟨d,.lookup T x y false,ty,pos,af,gd⟩ fr g (nV b L) (fX L q zv):=λa w hf hv hg=>by
 have:=Pb hT hK (hz w) hq hv false;simp[execOp,hx.eval hf hg,hy.eval hf hg,this]
theorem y_mlen(hx:Ev fr g x (.map (some b)))(hT:C.P.underlying T=some (.map k e)):UL C ⟨d,.call {callee:= .builtin .len,args:= #[x],argTypes:= #[T]},ty,pos,af,gd⟩ fr g (nV b L) (.i (J L:Int)):=λa w hf hv hg=>by
 obtain⟨es,clock,hb,hs,hL,hok⟩:=hv;have e1:es.size=J L:=by
  have:=congrArg List.length hL;simpa using this
 simp[execOp,resolve,invoke,builtin,hx.eval hf hg,Builtin.len_,run_underlying hT,MapKept.run_getObj_map hb,goInt,Result.andThen,e1]
end
end
end Go.Ink
