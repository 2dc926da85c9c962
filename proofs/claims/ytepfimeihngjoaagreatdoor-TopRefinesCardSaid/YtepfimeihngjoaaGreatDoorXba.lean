/- Lemmas. -/
import Derived.Test.YtepfimeihngjoaaGreatDoorXat
import Derived.Test.YtepfimeihngjoaaGreatDoorXau
import Derived.Test.YtepfimeihngjoaaGreatDoorXav
import Derived.Test.YtepfimeihngjoaaGreatDoorXaw
set_option linter.all false
set_option maxRecDepth 100000
set_option maxHeartbeats 4000000
namespace Go.Ink
open List renaming length→J, replicate→R9
open IntKind renaming wrap→V9
open Go.RowKit Go.Proofs.Tryz
section
attribute [local irreducible] Ve bN
variable{n:Nat}
variable{op:Int}
variable{p:Nat}
variable{nn:Int}
variable{R:UG}{U:UI}{d:UF}
section
variable{n:Nat}{U:UI}{d:UF}
theorem Vc.stow(h:Vc n U.m)(hd:d.wf)(R:UG){va:Nat}(hva:va<=4294967295)(v:Nat):Vc n (eZ n R U d va v).u.m:=by
 have hu:=h.whole R va 3;have hpf:=fj n U R.sp va hva 3;cases hm:(((va%4:Nat):Int) !=0)with
 |true=>rw[xo hm];exact h
 |false=>
  obtain⟨⟨⟨p,tr⟩,U'⟩,hp⟩:=Do (Go.Ink.SR n U R.sp va 3);rw[hp]at hpf;obtain⟨p,rfl⟩:∃m:Nat,p=m:=aj hpf.1.1;have hU':Vc n U'.m:=by
   have:=h.SR R.sp va 3 (h.walk _ _ _ _);rw[hp]at this;exact this
  cases hc:(tr.SU !=0)with
  |true=>rw[uJ hm hp hc];exact hU'
  |false=>
   have hz:tr.SU=0:=by simpa using hc
   have hto:=gM n U R.sp va 3;rw[hp]at hto;have hPo:=hpf.2 hz;have htn:tr=Tr.none:=hto hz;rw[htn]at hp;have hPo:oa n va (p:Int):=hPo;rw[AN hm hp];cases hb:decide ((32768:Int)<=(p:Int))with
   |true=>exact hU'.dev hd _ _
   |false=>
    have hb':¬(32768:Int)<=(p:Int):=of_decide_eq_false hb;have h4:va%4=0:=(by have h5:((va%4:Nat):Int)=0:=(by simpa using hm);omega);have h1:=hPo.m;have h2:=pJ (by unfold iG;rw[ao hb'];rfl) hPo;exact hU'.Tj _ 4 O
theorem Vc.other(h:Vc n U.m)(hd:d.wf)(hn:n<=64){op nn:Int}{R:UG}(hw:∀x,x∈R.s.d->u32 x):Vc n (cF n op nn ⟨R,U,d⟩).u.m:=by
 have hlast:∀l:List Int,(∀x,x∈l->u32 x)->u32 (l.getLastD 0):=λl hl=>by
  by_cases e:l=[]
  .subst e;exact u0
  obtain⟨l',x,rfl⟩:=rh (List.length_pos_iff.2 e);have e2:(l'++[x]).getLastD 0=x:=by simp
  rw[e2];exact hl x cJ
 have htop:R.top.toNat<=4294967295:=by
  have h1:=hlast R.s.d hw;have h2:R.top<=4294967295:=h1.2;omega
 unfold cF;refine bL (λm:eu=>Vc n m.u.m) (h.lode _ _) ?_;refine bL (λm:eu=>Vc n m.u.m) (h.stow hd _ htop _) ?_;refine Wq425 ?_;refine Wq425 ?_;refine bL (λm:eu=>Vc n m.u.m) h ?_;refine bL (λm:eu=>Vc n m.u.m) h ?_;refine bL (λm:eu=>Vc n m.u.m) h ?_;refine bL (λm:eu=>Vc n m.u.m) (bL (λV:UI=>Vc n V.m) h h) ?_;refine bL (λm:eu=>Vc n m.u.m) h ?_;exact bL (λm:eu=>Vc n m.u.m) h h
end
theorem Qr{s:St}(h:s.right=true)(hc:dQ s op nn≠0):ls n s op nn U d=Qh s s ⟨⟨s,s.count,⟨dQ s op nn,0⟩,false⟩,⟨U.m.calm,U.t⟩,d⟩:=by
 have e:(dQ s op nn !=0)=true:=by simpa using hc
 unfold ls Qh;rw[h];simp only[e,Bool.not_true,ah,ac];rw[show ee U.m.calm.SX 64=[]from xk]
end
end Go.Ink
namespace Go.Ink
open List renaming length→J
open IntKind renaming wrap→V9
open Go.RowKit Go.Proofs.Tryz
variable{m:Int}
variable{n:Nat}{s:St}{U:UI}{d:UF}
section
attribute [local irreducible] Ve bN
section
variable{n:Nat}{op nn:Int}{s:St}{U:UI}{d:UF}{R:UG}
theorem DN{m:eu}(h:m.d.lines):(cF n op nn m).d.lines:=by
 unfold cF;refine bL (λm:eu=>m.d.lines) (Ih h _) ?_;refine bL (λm:eu=>m.d.lines) (G3 h _ _) ?_;refine Wq58 ?_;refine IW ?_;refine IW ?_;refine IW ?_;refine IW ?_;exact bL (λm:eu=>m.d.lines) h h
theorem Lb(h:d.lines):(nF n s op nn U d).d.lines:=by
 unfold nF;cases cV op nn (fm s op)with
 |some R=>exact h
 |none=>exact bL (λm:eu=>m.d.lines) h (DN h)
theorem oM(h:d.lines):(ls n s op nn U d).2.2.lines:=by
 unfold ls;refine bL (λq:WP×UI×UF=>q.2.2.lines) h ?_;exact bL (λq:WP×UI×UF=>q.2.2.lines) h (Lb h)
end
end
end Go.Ink
namespace Go.Ink
open List renaming length→J, replicate→R9
open IntKind renaming wrap→V9
open Go.RowKit
variable{j:Nat}
variable{code:List II}
variable{x:II}
variable{n:Int}
variable{op:Int}
section
variable{n:Nat}{op nn:Int}{s:St}{U:UI}{d:UF}
theorem KS(h:dD op=true):∃R:UG,R.device=false/\nF n s op nn U d=⟨R,U,d⟩/\BG s op nn=R:=by
 have hc:op=0\/op=1\/op=2\/op=3\/op=4\/op=5\/op=6\/op=7\/op=8\/op=16\/op=17\/op=18\/op=19\/op=20\/op=21\/op=22\/op=23\/op=25\/op=32\/op=33\/op=34\/op=35\/op=36\/op=37\/op=38\/op=39\/op=40:=by
  exact XS
 rcases hc with rfl|rfl|rfl|rfl|rfl|rfl|rfl|rfl|rfl|rfl|rfl|rfl|rfl|rfl|rfl|rfl|rfl|rfl|rfl|rfl|rfl|rfl|rfl|rfl|rfl|rfl|rfl<;>
  first
  |exact⟨_,rfl,rfl,rfl⟩
  |exact⟨_,M8 rfl rfl,rfl,rfl⟩
  |(refine⟨_,?_,rfl,rfl⟩;exact M8 (b:=(hI _ (fm s _).pop.top (fm s _).top).2.2) (x:=(fm s _).pop.pop) (y:=(fm s _).pop.pop.wt ⟨5,0⟩) I I)
theorem Fs(h:dD op=true)(hr:s.right=true):ls n s op nn U d=(XQ s op nn,⟨U.m.calm,U.t⟩,d)/\(XQ s op nn).device=false/\(XQ s op nn).SV=[]:=by
 obtain⟨R,h1,h2,h3⟩:=KS (n:=n) (s:=s) (nn:=nn) (U:=⟨U.m.calm,U.t⟩) (d:=d) h;unfold ls XQ;rw[hr,h2,h3];refine Es ?_;cases(dQ s op nn !=0)with
 |true=>grind
 |false=>
  simp only[ac];have e:Ej s ⟨R,⟨U.m.calm,U.t⟩,d⟩=Sx s R:=by
   unfold Ej Sx;rw[show ee U.m.calm.SX 64=[]from xk]
  grind [Sx]
theorem DL(h:dD op=true)(hw:s.wf)(hr:s.right=true)(hnn:u32 nn)(hU:Wz n U)(hd:d.ok):(XQ s op nn).s.wf/\(XQ s op nn).s.right=true:=by
 have hg:=pI (op:=op) (nn:=nn) hw hr hnn hU hd;rw[(Fs (n:=n) (nn:=nn) (U:=U) (d:=d) h hr).1]at hg;exact⟨hg.wf,hg.right⟩
end
theorem FA{n:Nat}{U:UI}{d:UF}(hU:Wz n U)(hdv:d.ok){D R:Li}{f0:Int}(hD:J D<=16)(hR:J R<=16):∀(l:List (Int×Int)) (s:St) (w:Lw) (q:Int×Lw),l≠[]->(∀i,i∈l->u32 i.2)->nI s.pc w l=some q->s.wf->s.right=true->
  LI D R w s.d s.r->FL D R f0 w s.flags->w.target= -1->w.branch=0->q.2.d.S2<=(J D:Int)->q.2.r.S2<=(J R:Int)->(J D:Int)+q.2.d.high<=16->(J R:Int)+q.2.r.high<=16->
  ∃s',Jk l s s'/\s'.wf/\s'.right=true/\LI D R q.2 s'.d s'.r/\FL D R f0 q.2 s'.flags/\s'.pc=rV D R q.2 (l.getLastD (0,0)).1 (l.getLastD (0,0)).2 q.1 s'.flags/\SO s s' (J l)/\(((l.getLastD (0,0)).1==32||(l.getLastD (0,0)).1==38)=true->q.2.branch=0)
 |[],_,_,_,hl,_,_,_,_,_,_,_,_,_,_,_,_=>absurd rfl hl
 |(op,nn)::l,s,w,q,hl,hu,h,hwf,hr,hli,hfl,htg,hbr,n1,n2,g1,g2=>by
  obtain⟨h1,h2,h3,h4⟩:=me h;dsimp only at h1 h2 h3 h4;have hm:j7 (w.one op nn (dV s op)) q.2:=by
   have:∀(l:List (Int×Int)) (pc:Int) (w:Lw) (q:Int×Lw),nI pc w l=some q->j7 w q.2:=by
    intro l
    induction l with
    |nil=>intro pc w q h;obtain rfl:(pc,w)=q:=aF h;exact j7.refl _
    |cons i l ih=>intro pc w q h;obtain⟨-,h2, -,h4⟩:=me h;exact(Bz h2 w _ _).trans (ih _ _ _ h4)
   exact this l _ _ q h4
  have hnn:u32 nn:=hu (op,nn) cJ;obtain⟨s1,hs⟩:=one_ok (nn:=nn) h2 h1 hr hli hfl hD hR htg hbr (Int.le_trans hm.nd n1) (Int.le_trans hm.nr n2) (by have:=hm.hd;omega) (by have:=hm.hr;omega);have hgo:=DL (nn:=nn) h2 hwf hr hnn hU hdv;rw[hs.did]at hgo;have hk1:SO s s1 1:=hs.rest;cases l with
  |nil=>
   obtain rfl:(dV s op,w.one op nn (dV s op))=q:=aF h4;exact⟨s1,.cons h2 hr hs.did (λe=>absurd I e) (.nil s1),hgo.1,hgo.2,hs.li,hs.fl,hs.pc,hk1,λhe=>(by
    have he:(op==32||op==38)=true:=he;simp only[Bool.or_eq_true,beq_iff_eq]at he;rcases he with rfl|rfl<;>exact hbr)⟩
  |cons j l=>
   have he:=h3 cJ;have hlt:=ME h2 he;obtain⟨t1,b1⟩:=hs.going hlt;have hpc:s1.pc=dV s op:=hs.pc.trans (ue b1 t1 (by
    grind))
   have h4:nI s1.pc (w.one op nn (dV s op)) (j::l)=some q:=by rw[hpc];exact h4
   obtain⟨s',c1,c2,c3,c4,c5,c6,c7,c8⟩:=FA hU hdv hD hR (j::l) s1 (w.one op nn (dV s op)) q cJ (λi hi=>hu i (aW _ hi)) h4 hgo.1 hgo.2 hs.li hs.fl t1 b1 n1 n2 g1 g2;exact⟨s',.cons h2 hr hs.did (λ_=>⟨he,hpc⟩) c1,c2,c3,c4,c5,c6,hk1.trans c7,c8⟩
theorem ET{n:Nat}{U:UI}{d:UF}(hU:Wz n U)(hdv:d.ok){s:St}(hwf:s.wf)(hr:s.right=true){l:List (Int×Int)}(hu:∀i,i∈l->u32 i.2){p:Pg}(hlow:fK s.pc l=some p)(hright:p.Tf=true){M:HM}{f:Nat}
  (ka:ka (gC p (dU p)) f ⟨R9 16 0,TB s,0⟩=((1,1),M)):
  Jk l s (oR M.words s)/\(oR M.words s).wf/\(oR M.words s).right=true/\SO s (oR M.words s) (J l)/\1<=J l/\J l<=8/\M.words.getD 2 0<=16/\M.words.getD 3 0<=16/\M.words.getD 1 0<=15:=by
 obtain⟨hd16,hr16, -⟩:=St.fits hr;unfold fK at hlow;cases hlen:decide ((J l:Int)<1)||decide (8<(J l:Int))with
 |true=>grind
 |false=>
 rw[hlen,ac]at hlow;simp only[aZ,aa]at hlen;have hl0:l≠[]:=λe=>by grind
 cases hgo:nI s.pc Lw.init l with
 |none=>grind
 |some q=>
 rw[hgo]at hlow;obtain⟨nx,w⟩:=q;obtain rfl:=aF hlow;obtain⟨lk, -,hnx⟩:=tV l s.pc Lw.init _ hu hgo vg;have hnx:=hnx hl0;dsimp only at lk hnx;obtain⟨i,hi⟩:=Do (l.getLastD (0,0));rw[hi]at hright ka;obtain⟨p0,hp0⟩:=Do (y8 nx w i (J l));rw[hp0]at hright ka;have f1:p0.code=w.code:=by rw[<-hp0];rfl
 have f2:p0.S9=w.d.l:=by rw[<-hp0];rfl
 have f3:p0.Ta=w.r.l:=by rw[<-hp0];rfl
 have f4:p0.flags=w.flags:=by rw[<-hp0];rfl
 have f5:p0.target=w.target:=by rw[<-hp0];rfl
 have f6:p0.branch=w.branch:=by rw[<-hp0];rfl
 have raw:Raw p0:=⟨by rw[f1];exact lk.wf,by rw[f1];exact lk.ops,by simp_all [lk.d],by simp_all [lk.r],by simp_all [lk.flags],by simp_all [lk.target]⟩;have g1:(cG p0).SW=w.d.S2:=by rw[<-hp0];rfl
 have g2:(cG p0).SZ=w.r.S2:=by rw[<-hp0];rfl
 have g3:(cG p0).Tw=w.d.high:=by rw[<-hp0];rfl
 have g4:(cG p0).Tx=w.r.high:=by rw[<-hp0];rfl
 have g5:(cG p0).next=bif i.1==32||i.1==38 then V9 .u32 (nx+jN i.2)else nx:=by rw[<-hp0];rfl
 have g6:(cG p0).taken=bif i.1==32||i.1==38 then 0 else bif w.branch !=0 then V9 .u32 (nx+jN i.2)else 0:=by rw[<-hp0];rfl
 have g7:(cG p0).branch=w.branch:=by rw[<-hp0];rfl
 have g8:(cG p0).count=J l:=by rw[<-hp0];rfl
 have hlen4:=vh l s.pc Lw.init _ hgo;have hlen5:J w.code<=32:=by have:J Lw.init.code=0:=rfl;dsimp only at hlen4;omega
 have hlen6:(cG p0).code.length<=64:=by
  exact Wq303
 have himc:Ym (cG p0).code:=B6 (gI p0) p0.code 0 _ [] (λ_ h=>by cases h) (by rw[f1];exact lk.imm);have hn32:u32 (cG p0).next:=by rw[g5];cases i.1==32||i.1==38 with|true=>exact xj _|false=>exact hnx
 have ht32:u32 (cG p0).taken:=by
  have z:u32 0:=⟨by decide,by decide⟩;rw[g6];cases i.1==32||i.1==38 with
  |true=>exact z
  |false=>grind [xj]
 obtain⟨pok,pbt,pfl,ptg⟩:=uS hright himc hlen6 hn32 ht32;have hplan:NU (dU (cG p0)) (gx (cG p0)) (cG p0).code.length:=KQ (λi hi=>Ly (cG p0) hi) hlen6;have hgo2:UP (gC (cG p0) (dU (cG p0))) 0 (gC (cG p0) (dU (cG p0))) (R9 16 0) (TB s) M:=⟨List.drop_zero,by simp,Fq s,f,ka⟩;have left:=Qk pok hplan hr hwf hgo2;have li0:LI s.d s.r Lw.init s.d s.r:=⟨⟨Int.le_refl _,by show(0:Int)<=_;omega,by show s.d=s.d.take (J s.d - (0:Int).toNat)++[];simp,λ_ h=>by cases h⟩,⟨Int.le_refl _,by show(0:Int)<=_;omega,by show s.r=s.r.take (J s.r - (0:Int).toNat)++[];simp,λ_ h=>by cases h⟩⟩;have n1:=left.SW;have n2:=left.SZ;have n3:=left.Tw;have n4:=left.Tx;rw[g1]at n1;rw[g2]at n2;rw[g3]at n3;rw[g4]at n4;obtain⟨s',c1,c2,c3,c4,c5,c6,c7,c8⟩:=FA hU hdv hd16 hr16 l s Lw.init (nx,w) hl0 hu hgo hwf hr li0 (Or.inl ⟨I,I⟩) I I n1 n2 n3 n4;rw[hi]at c6 c8;dsimp only at c4 c5 c6 c8;obtain⟨V,hV⟩:=Do (Tv s.d s.r (cG p0).code);have hmv:∀m,(m∈p0.S9\/m∈p0.Ta\/m=p0.flags\/m=p0.target)->II.in_ m w.code->0<=(fe p0).1.getD m.toNat 0/\V.getD ((fe p0).1.getD m.toNat 0).toNat 0=eE s.d s.r w.code m:=λm h1 h2=>by
  have h3:=Ka (D:=s.d) (R:=s.r) raw h1 bZ;rw[f1]at h3;refine⟨h3.1.1,?_⟩;rw[<-hV];exact h3.2
 rw[hV]at left;have hoD:(cG p0).S9=dW (fe p0).1 w.d.l:=by rw[<-f2];rfl
 have hoR:(cG p0).Ta=dW (fe p0).1 w.r.l:=by rw[<-f3];rfl
 have hfl:(cG p0).flags=iv (fe p0).1 w.flags:=by rw[<-f4];rfl
 have htg:(cG p0).target=iv (fe p0).1 w.target:=by rw[<-f5];rfl
 have hc3:=c3;obtain⟨-, -,fl15⟩:=St.fits c3;have hfl0:=c2.flags;have eF:(cG p0).Ua V s.flags=s'.flags:=by
  unfold Pg.Ua;rw[hfl];rcases c5 with⟨q1,q2⟩|⟨q1,q2⟩
  .rw[q1];exact q2.symm
  have hne:w.flags≠ -1:=by have:=q1.1;omega
  have h3:=hmv w.flags O q1;unfold iv;rw[show(w.flags != -1)=true by grind,ah,ap h3.1,ah,h3.2,<-q2];have:=hfl0.1;omega
 have ePc:(cG p0).TW V s'.flags=s'.pc:=by
  rw[c6];unfold Pg.TW rV;rw[htg,g5,g6,g7];rw[htg]at ptg pbt;rw[g7]at pbt;by_cases ht:w.target= -1
  .grind [iv,fe,df]
  have hin:II.in_ w.target w.code:=by rcases lk.target with e|e;exact absurd e ht;exact e
  grind [iv,fe,df]
 have Un:(cG p0).S9.length=J w.d.l:=by rw[hoD];simp[dW]
 have lenR:(cG p0).Ta.length=J w.r.l:=by rw[hoR];simp[dW]
 have outsEq:∀(L:Li),(∀m,m∈L->(m∈p0.S9\/m∈p0.Ta\/m=p0.flags\/m=p0.target)/\II.in_ m w.code)->∀j,j<J L->V.getD ((dW (fe p0).1 L).getD j 0).toNat 0=(L.map (eE s.d s.r w.code)).getD j 0:=λL hL j hj=>by
  grind [dW,fe,eE]
 have hLD:∀m,m∈w.d.l->(m∈p0.S9\/m∈p0.Ta\/m=p0.flags\/m=p0.target)/\II.in_ m w.code:=λm hm=>⟨Or.inl bZ,lk.d m hm⟩
 have hLR:∀m,m∈w.r.l->(m∈p0.S9\/m∈p0.Ta\/m=p0.flags\/m=p0.target)/\II.in_ m w.code:=λm hm=>⟨Or.inr (Or.inl bZ),lk.r m hm⟩
 have eD:ga M.words 4 (M.words.getD 2 0).toNat=s'.d:=by
  rw[c4.d.eq];have a1:=left.Un;have a2:=left.lowD;have a3:=left.newD;rw[g1]at a1 a2 a3;rw[Un]at a1 a3;refine AL bZ a2 (λj hj=>?_);have hj:j<J w.d.l:=by simpa using hj
  rw[a3 j hj,hoD];exact outsEq w.d.l hLD j hj
 have eR:ga M.words 20 (M.words.getD 3 0).toNat=s'.r:=by
  rw[c4.r.eq];have a1:=left.lenR;have a2:=left.lowR;have a3:=left.newR;rw[g2]at a1 a2 a3;rw[lenR]at a1 a3;refine AL bZ a2 (λj hj=>?_);have hj:j<J w.r.l:=by simpa using hj
  rw[a3 j hj,hoR];exact outsEq w.r.l hLR j hj
 have eS:oR M.words s=s':=by
  unfold oR;have hk:s'=_:=c7;rw[left.pc,left.flags,left.count,eF,ePc,eD,eR,g8];rw[hk]
 have hfit1:=left.fitD;have hfit2:=left.fitR;have hw2:=left.Un;have hw3:=left.lenR;rw[eS];exact⟨c1,c2,c3,c7,by omega,by omega,by omega,by omega,by rw[left.flags,eF];omega⟩
end Go.Ink
namespace Go.Ink
open List renaming length→J, replicate→R9
open IntKind renaming wrap→V9
open Go.RowKit Go.Proofs.Tryz
variable{rd v:Int}
variable{ra:Int}
variable{i:HI}{l:List HI}
section
attribute [local irreducible] Ve bN
variable{m:HM}
variable{C:List HI}
theorem hb_take(i:HI)(l:List HI):(cH (i::l)).take 8=sY i:=by
 simp[sY,cH]
theorem hb_drop(i:HI)(l:List HI):(cH (i::l)).drop 8=cH l:=by
 simp[sY,cH]
theorem hall_ok(A:Oa)(c:Nat)(l:List HI)(hg:gt l)(hl:J l<=100000)(w:World)(h:Rd w .u8 A (J (cH l)) c (cH l)):
  UW prog 242 [.slice A (J (cH l)) c] w [] (λv cs=>∃A' c',v= .tuple #[.slice A' (J l) c',.i 0]/\cs=[W7 A' c' l]):=by
 refine UV func242 ntmps242 ?_;refine Va ?_;refine dB 370 5 (UQ ?_);refine Vs (λq:Nat×(Option Addr×Nat)×(Option Addr×Nat)=>[(0,.slice q.2.1.1 (J (cH (l.drop q.1))) q.2.1.2),(4,.slice q.2.2.1 (J (l.take q.1)) q.2.2.2)]) (λq=>[W7 q.2.2.1 q.2.2.2 (l.take q.1)]) (λq=>q.1<=J l/\Rd w .u8 q.2.1.1 (J (cH (l.drop q.1))) q.2.1.2 (cH (l.drop q.1))) (λq=>J l - q.1) (⟨0,⟨A,c⟩,⟨none,0⟩⟩) bZ ?_;rintro⟨k,⟨A1,c1⟩,⟨A2,c2⟩⟩ ⟨hk,h1⟩;dsimp only at hk h1|-;have hcap:=h1.cap;have hmx:=h1.max;simp only[maxLen]at hmx;have hlk:J (l.take k)=k:=bZ;refine Wp ?_ ?_<;>intro hc2
 .simp only[ai]at hc2;have hkl:k<J l:=(by rw[jx,List.length_drop]at hc2;omega);obtain⟨i,hx⟩:∃i,l[k]? =some i:=⟨_,ak hkl⟩;have hgi:=hg i (aG hx);have htk:l.take (k+1)=l.take k++[i]:=(by rw[List.take_add_one,hx];rfl);have hdr:l.drop k=i::l.drop (k+1):=(by obtain⟨q1,q2⟩:=aC.1 hx;rw[<-q2];exact List.drop_eq_getElem_cons q1);have hn8:J (cH (l.drop k))=8+J (cH (l.drop (k+1))):=(by rw[hdr];show(sY i++_).length=_;rw[ar];rfl);have h2:=fI h1 8;rw[hdr,hb_take]at h2;have HD:=Iv A1 c1 i hgi;have h3:=h1.cut (lo:=8) (hi:=J (cH (l.drop k))) O (aK _);have e3:((ints .u8 (cH (l.drop k))).take (J (cH (l.drop k)))).drop 8=ints .u8 (cH (l.drop (k+1))):=(by rw[List.take_of_length_le (by simp[ints]),hdr];show((cH (i::l.drop (k+1))).map _).drop 8=_;rw[<-List.map_drop,hb_drop];rfl);rw[e3,show(cH (l.drop k)).length - 8=J (cH (l.drop (k+1))) by omega]at h3;have htl:J (l.take (k+1))=k+1:=bZ;obtain⟨N,hN⟩:=Do (J (cH (l.drop k)));rw[hN]at hn8 h1 hcap|-;refine Va ?_;refine Zy (Ys (Zv I) (Zv I) (show _=((8:Nat):Int)from by omega)) ?_;refine Zy (fc 8 I ir (Zv I) (Zv I) qR UL) ?_;refine UZ (λw hi=>HD w (h2.Tb hi)) ?_;refine UN ?_;refine ZN λb5=>?_
  refine qN ?_;refine lN ?_;refine UU ?_;refine wF ?_;rintro _ _ ⟨b24,rfl,rfl⟩;refine gS (cC (e:=370) (sz:=5) (bytes:=40) I I Za I I (λw hi=>hi.rd (UJ (slv 370 5 (sA b24) 1 1 i.cells))) (jR I) gD O) I ?_;rintro _ _ ⟨A3,c3,rfl,rfl⟩;rw[hi_snoc,<-htk,show(l.take k).length+1=J (l.take (k+1)) by omega];refine UQ ?_;refine Zy (yo (lo:=8) (hi:=N) I ir (Zv I) (.inr ⟨_,_,I,(Zv I)⟩) (.inl ⟨I,I⟩) O O) ?_;rw[show N - 8=J (cH (l.drop (k+1))) from by omega];refine UN ?_;refine VM ((⟨k+1,⟨if c1=8 then A1 else A1.map (·.add (8*1)),c1 - 8⟩,⟨A3,c3⟩⟩:Nat×(Option Addr×Nat)×(Option Addr×Nat))) bZ
 simp only[aa]at hc2;obtain rfl:k=J l:=(by rw[jx,List.length_drop]at hc2;omega);rw[List.take_length];refine ZV ?_;exact pP
theorem Iu(op a b:Int)(ha:0<=a/\a<=18446744073709551615)(hb:0<=b/\b<=18446744073709551615)(w:World):CW prog 314 [.i op,.int .u64 a,.int .u64 b] w (.int .u64 (kT op a b)):=by
 refine UV func314 ntmps314 ?_;refine wn ?_;refine ZW ?_ ?_<;>intro hc2
 .refine jP ?_;exact Xj
 refine UH ?_ ?_<;>intro hc4
 .refine UK ?_;refine kZ ?_;exact WY
 refine UH ?_ ?_<;>intro hc6
 .refine UK ?_;refine sa ?_;exact WY
 refine UH ?_ ?_<;>intro hc8
 .refine nY ?_;exact Xj
 refine UH ?_ ?_<;>intro hc10
 .refine nY ?_;exact Xj
 refine UH ?_ ?_<;>intro hc12
 .refine nY ?_;exact Xj
 refine UH ?_ ?_<;>intro hc14
 .refine UK ?_;refine IY ?_;exact WY
 refine UH ?_ ?_<;>intro hc16
 .refine UK ?_;refine qT ?_;exact WY
 refine UH ?_ ?_<;>intro hc18
 .refine UK ?_;refine Zy (fT py py I) ?_;exact WY
 refine UH ?_ ?_<;>intro hc20
 .refine VJ ?_ ?_<;>intro hc21
  .refine jP ?_;exact Xj
  have hb0:b≠0:=ne_of_beq_false hc21;refine UU ?_;refine Zy (kf (Zv I) (Zv I) O I) ?_;exact WY
 refine UH ?_ ?_<;>intro hc24
 .refine UQ ?_;refine UZ (λw hi=>BV _ w) ?_;exact WY
 refine Va ?_;refine UZ (λw hi=>BV _ w) ?_;refine UK ?_;refine Wl ?_;exact Xj
abbrev hmF(bm bw:Nat)(Ac:Oa)(cc:Nat)(C:List HI)(m:HM):List bJ:=[ge bm bw Ac (J C) cc m.Tu m.pc,Wb bw m.words,W7 Ac cc C]
theorem hnew_ok(w:World):UW prog 189 [.i 256] w [] (λv cs=>∃bm bw,v= .tuple #[.p bm,.i 0]/\cs=[ge bm bw none 0 0 (R9 16 0) 0,Wb bw (R9 256 0)]):=by
 refine UV func189 ntmps189 ?_;refine wD ?_;refine j6 ?_;refine gS (j9 (bytes:=4) (n:=256) I I I I I I I O gD) I ?_;rintro _ _ ⟨b11,rfl,rfl⟩;refine ZA ?_;refine ZO λb13=>?_
 rw[px];refine gE [ge b13 b11 none 0 0 (R9 16 0) 0,Wb b11 (R9 256 0)] Zj (UQ ?_);exact wB (cs':=[row _ _ _,slv _ _ _ _ _ _]) (.inl I) Zu I I I pP
section
variable(bm bw:Nat)(Ac:Oa)(n cc:Nat)(R W:Li)(pc:Int)
theorem BU(hR:J R=16)(w:World)(h:(ge bm bw Ac n cc R pc).ok w):CW prog 239 [.p bm] w (.i 256):=by
 refine UV func239 ntmps239 ?_;refine eL ?_;exact dZ (bO ir py) (cW h (N0 hR)) I qP
theorem FO(hR:J R=16)(hW:J W=256)(k:Nat)(hk:k<256)(w:World)(h:(ge bm bw Ac n cc R pc).ok w)(h2:(Wb bw W).ok w):CW prog 244 [.p bm,.i k] w (.w (W.getD k 0)):=by
 have hx:W[k]? =some (W.getD k 0):=by rw[aS,ak O];rfl
 refine UV func244 ntmps244 ?_;refine nW ?_;refine iX (bR I I) (bO ir (cO I)) (cW h (N0 hR)) I (UQ ?_);refine cK I (bZ) (US ?_);refine dZ (bO ir py) (cW h (N0 hR)) I (ZA ?_);refine GA ?_;exact dZ (bO ir py) (dK (cY h2) (cw hx)) I mZ
theorem rF(hR:J R=16)(hW:J W=256)(k:Nat)(hk:k<256)(v:Int):CI prog 240 [.p bm,.i k,.w v] [ge bm bw Ac n cc R pc,Wb bw W] (λx cs=>x= .bool true/\cs=[ge bm bw Ac n cc R pc,Wb bw (W.set k v)]):=λw hi=>by
 refine Vb func240 ntmps240 hi ?_;refine nW ?_;refine iX (bR I I) (bO ir (cO I)) (cT Zh (N0 hR)) I (UQ ?_);refine cK I (bZ) (US ?_);refine dZ (bO ir py) (cT Zh (N0 hR)) I (An ?_);refine Yj ?_;refine UR ?_;rw[eK];refine Va ?_;refine VA ([row _ _ _,slv _ _ _ _ _ _]) ?_;exact fx
theorem L8(hR:J R=16)(hW:J W=256)(f:Nat)(hf:f<=100)(A:Oa)(c:Nat)(l:Li)(hl:J l<=16)(w:World)(hi:Inv w (bM [ge bm bw Ac n cc R pc,Wb bw W]) [ge bm bw Ac n cc R pc,Wb bw W] w)
  (h:∀w',dc (bM [ge bm bw Ac n cc R pc,Wb bw W]) w w'->Rd w' .u32 A (J l) c l):
  UW prog 241 [.p bm,.i f,.slice A (J l) c] w [ge bm bw Ac n cc R pc,Wb bw W] (λx cs=>cs=[ge bm bw Ac n cc R pc,Wb bw (kp W f l 16)]):=by
 have h0:=h w (dc.refl _ _);refine Vb func241 ntmps241 hi ?_;refine UU ?_;refine Vs (λk:Nat=>[(0,.p bm),(1,.i f),(2,.slice A (J l) c),(8,.i (k:Int))]) (λk=>[ge bm bw Ac n cc R pc,Wb bw (kp W f l k)]) (λk=>k<=16) (λk=>16 - k) (0) O ?_;rintro k hk;have hlk:J (kp W f l k)=256:=(by rw[mf,hW]);refine UH ?_ ?_<;>intro hc1
 .simp only[ai]at hc1;refine nW ?_;refine cj (λ_:Unit=>[(0,.p bm),(1,.i f),(2,.slice A (J l) c),(6,.i (k:Int)),(7,.w (l.getD k 0)),(8,.i (k:Int))]) (λ_=>[ge bm bw Ac n cc R pc,Wb bw (kp W f l k)]) (λ_=>True) ?_ ?_
  .refine Wp ?_ ?_<;>intro hc4
   .simp only[ai]at hc4;obtain⟨ad,rfl⟩:=h0.some_ O;have hx:l[k]? =some (l.getD k 0):=bZ;refine UN ?_;refine GA ?_;refine dZ (bO ir py) (oA h (cw hx)) I (An ?_);refine VM (()) gh
   simp only[aa]at hc4;have e0:l.getD k 0=0:=bZ;rw[e0];refine Zc (VM (()) gh)
  rintro - -;refine UK ?_;refine Zy (dy (Zv I) (Zv I) (show _=((f+k:Nat):Int)from by rw[aQ _ ⟨by omega,by omega⟩];omega)) ?_;refine ZA ?_;refine Vq ([ge bm bw Ac n cc R pc,Wb bw (kp W f l k)]) (λw hi hin=>rF bm bw Ac n cc R (kp W f l k) pc hR hlk (f+k) O (l.getD k 0) w hin) ?_;exact Xl
 simp only[aa]at hc1;obtain rfl:k=16:=by omega
 refine UK ?_;exact io (cs':=[row _ _ _,slv _ _ _ _ _ _]) (.inr I) Zu I I
end
theorem hput_ok(bm bw:Nat)(s:St)(hs:s.right=true)(hw:s.wf)(Ad Ar:Oa)(cd cr:Nat)(w:World)(hi:Inv w (bM [ge bm bw none 0 0 (R9 16 0) 0,Wb bw (R9 256 0)]) [ge bm bw none 0 0 (R9 16 0) 0,Wb bw (R9 256 0)] w)
  (h:∀w',dc (bM [ge bm bw none 0 0 (R9 16 0) 0,Wb bw (R9 256 0)]) w w'->iL w' s Ad Ar cd cr):
  UW prog 190 [.p bm,sv s Ad cd Ar cr] w [ge bm bw none 0 0 (R9 16 0) 0,Wb bw (R9 256 0)] (λx cs=>x= .bool true/\cs=[ge bm bw none 0 0 (R9 16 0) 0,Wb bw (TB s)]):=by
 have hR:J (R9 16 (0:Int))=16:=az;obtain⟨R,hRe⟩:=Do (R9 16 (0:Int));have hpw:TB s=(kp (kp (((((R9 256 (0:Int)).set 0 s.pc).set 1 s.flags).set 2 (J s.d:Int)).set 3 (J s.r:Int)) 4 s.d 16) 20 s.r 16).set 36 0:=rfl;have hW0:J (R9 256 (0:Int))=256:=az;obtain⟨W0,hWe⟩:=Do (R9 256 (0:Int));rw[hWe]at hW0 hpw hi h|-;rw[hRe]at hR hi h|-;rw[hpw];obtain⟨hd16,hr16, -⟩:=St.fits hs;have HR:=mJ s;rw[hs]at HR;have hW1:J (W0.set 0 s.pc)=256:=by rw[List.length_set,hW0]
 have hW2:J ((W0.set 0 s.pc).set 1 s.flags)=256:=by rw[List.length_set,hW1]
 have hW3:J (((W0.set 0 s.pc).set 1 s.flags).set 2 (J s.d:Int))=256:=by rw[List.length_set,hW2]
 have hW4:J ((((W0.set 0 s.pc).set 1 s.flags).set 2 (J s.d:Int)).set 3 (J s.r:Int))=256:=by rw[List.length_set,hW3]
 have HL1:=L8 bm bw none 0 0 R _ 0 hR hW4 4 ne Ad cd s.d hd16;obtain⟨W4,hW4e⟩:=Do ((((W0.set 0 s.pc).set 1 s.flags).set 2 (J s.d:Int)).set 3 (J s.r:Int));rw[hW4e]at hW4 HL1|-;have hW5:J (kp W4 4 s.d 16)=256:=by rw[mf,hW4]
 have HL2:=L8 bm bw none 0 0 R _ 0 hR hW5 20 ne Ar cr s.r hr16;have hW6:J (kp (kp W4 4 s.d 16) 20 s.r 16)=256:=by rw[mf,hW5]
 refine Vb func190 ntmps190 hi ?_;refine An ?_;refine ZO λb3=>?_;refine eL ?_;refine gm (bR I I) I (dT I (λ_ _=>I) (λw hi=>BU bm bw none 0 0 R 0 hR w (hi.get Zh))) I ?_;refine Vz ?_;refine UN ?_;refine jl (bR I I) Zh ir ir (Zv I) I (gm (bR I I) I (dT I (λ_ _=>I) (λw hi=>HR Ad Ar cd cr w)) I ?_);refine Vz ?_;refine UK ?_;refine lN ?_;refine US ?_;refine Vq ([ge bm bw none 0 0 R 0,Wb bw W0]) (λw hi hin=>rF bm bw none 0 0 R W0 0 hR hW0 0 ne s.pc w hin) ?_;refine US ?_;refine Vq ([ge bm bw none 0 0 R 0,Wb bw (W0.set 0 s.pc)]) (λw hi hin=>rF bm bw none 0 0 R _ 0 hR hW1 1 ne s.flags w hin) ?_;refine Va ?_;refine Zy (cz I I (Zv I) Ns) ?_;refine Vq ([ge bm bw none 0 0 R 0,Wb bw ((W0.set 0 s.pc).set 1 s.flags)]) (λw hi hin=>rF bm bw none 0 0 R _ 0 hR hW2 2 ne (J s.d:Int) w hin) ?_;refine Va ?_;refine Zy (cz I I (Zv I) Ns) ?_;refine Vq ([ge bm bw none 0 0 R 0,Wb bw (((W0.set 0 s.pc).set 1 s.flags).set 2 (J s.d:Int))]) (λw hi hin=>rF bm bw none 0 0 R _ 0 hR hW3 3 ne (J s.r:Int) w hin) ?_;rw[hW4e];refine US ?_;refine Ws ([ge bm bw none 0 0 R 0,Wb bw W4]) (λw hi hin=>HL1 w hin (λw' hk=>(h w' (hi.Ub (λc hc=>by simp only[aI,aY,or_false]at hc;rcases hc with rfl|rfl;exact Vk.mem (UJ _);exact Vk.mem (UJ _)) hk)).d)) ?_;rintro _ _ ⟨_,rfl,rfl⟩;refine US ?_;refine Ws ([ge bm bw none 0 0 R 0,Wb bw (kp W4 4 s.d 16)]) (λw hi hin=>HL2 w hin (λw' hk=>(h w' (hi.Ub (λc hc=>by simp only[aI,aY,or_false]at hc;rcases hc with rfl|rfl;exact Vk.mem (UJ _);exact Vk.mem (UJ _)) hk)).r)) ?_;rintro _ _ ⟨_,rfl,rfl⟩;refine UQ ?_;refine Vq ([ge bm bw none 0 0 R 0,Wb bw (kp (kp W4 4 s.d 16) 20 s.r 16)]) (λw hi hin=>rF bm bw none 0 0 R _ 0 hR hW6 36 ne 0 w hin) ?_;refine Va ?_;refine VA ([row _ _ _,slv _ _ _ _ _ _]) ?_;exact fx
theorem P4(bm bw:Nat)(R W:Li)(hR:J R=16)(A:Oa)(c:Nat)(C:List HI)(hg:gt C)(hl:J C<=100000)(w:World)(hi:Inv w (bM [ge bm bw none 0 0 R 0,Wb bw W]) [ge bm bw none 0 0 R 0,Wb bw W] w)
  (h:∀w',dc (bM [ge bm bw none 0 0 R 0,Wb bw W]) w w'->Rd w' .u8 A (J (cH C)) c (cH C)):
  UW prog 191 [.p bm,.slice A (J (cH C)) c] w [ge bm bw none 0 0 R 0,Wb bw W] (λx cs=>∃Ac cc,x= .i 0/\cs=hmF bm bw Ac cc C ⟨R,W,0⟩):=by
 refine Vb func191 ntmps191 hi ?_;refine Va ?_;refine Vl (λw hi=>hall_ok A c C hg hl w (h w hi.To)) ?_;rintro _ _ ⟨Ac,cc,rfl,rfl⟩;refine r7 ?_;refine U8 ?_;refine eA (jB ir I I I Za (by rw[Sq hR];omega)) ?_;refine UR ?_;rw[hm_setc hR];refine An ?_;refine eA (jB ir I I I Za (by rw[Sq hR];omega)) ?_;refine UR ?_;rw[L7 hR];refine Va ?_;refine tI ?_;exact⟨Ac,cc,I,I⟩
theorem L6(bm bw:Nat)(Ac:Oa)(cc:Nat)(C:List HI)(hC:gt C)(m:HM)(hm:m.ok):CI prog 243 [.p bm] (hmF bm bw Ac cc C m) (λx cs=>x= .i (Te C m).1/\cs=hmF bm bw Ac cc C (Te C m).2):=λw hi=>by
 have hR:=hm.rl;have hW:=hm.wl;have hr:=hm.r;have hwd:=hm.w;have hp0:=hm.pc;obtain⟨R,W,pc⟩:=m;dsimp only at hR hW hr hwd hp0;obtain⟨p,rfl⟩:∃p:Nat,pc=p:=aj hp0;have hi:Inv w (bM [ge bm bw Ac (J C) cc R (p:Int),Wb bw W,W7 Ac cc C]) [ge bm bw Ac (J C) cc R (p:Int),Wb bw W,W7 Ac cc C] w:=hi
 change UW _ _ _ w [ge bm bw Ac (J C) cc R (p:Int),Wb bw W,W7 Ac cc C] _
 have hcap:=(cY (hi.get (show Vk _ (W7 Ac cc C)from by repeat (first|exact .head _ _|apply Vk.tail)))).cap;have hmx:=(cY (hi.get (show Vk _ (W7 Ac cc C)from by repeat (first|exact .head _ _|apply Vk.tail)))).max;have hsome:=λh=>(cY (hi.get (show Vk _ (W7 Ac cc C)from by repeat (first|exact .head _ _|apply Vk.tail)))).some_ h
 simp only[maxLen]at hmx;have hS:(Te C ⟨R,W,(p:Int)⟩)=bif decide ((p:Int)<0)||decide ((J C:Int)<=(p:Int))then(2,⟨R,W,(p:Int)⟩)else Wr (C.getD p HI.zero) ⟨R,W,(p:Int)⟩:=rfl
 obtain⟨⟨why,m9⟩,hq⟩:=Do (Te C ⟨R,W,(p:Int)⟩);rw[hq]at hS|-;refine Vb func243 ntmps243 hi ?_;refine US ?_;refine jf ?_;refine lO ?_;refine UE 2 18 ?_;refine Vn 3 I (bO ir py) (cT Zh (YB hR)) ?_;refine ZE 4 ?_;refine ZE 5 ?_;refine ZF 6 ?_;refine ZF 7 ?_;refine ZFf 8 18 ?_;refine Zy7 9 I (bR I I) (bO ir (cO I)) (cT Zh (YB hR)) ?_;refine ZF 10 ?_;refine ZF 11 ?_;refine ZFf 12 17 ?_;refine Zy7 13 I (bR I I) (bO ir (cO I)) (cT Zh (hm_c hR)) ?_;refine ZF 14 ?_;refine ZF 15 ?_;refine ZE 16 ?_;refine tC ?_;refine ZW ?_ ?_<;>intro hc1
 .rw[hc1,ah]at hS;obtain⟨rfl,rfl⟩:=Prod.mk.inj hS;refine US ?_;refine tI ?_;exact fx
 rw[hc1,ac]at hS;have hpl:p<J C:=bZ;obtain⟨i,hx⟩:∃i,C[p]? =some i:=⟨_,ak hpl⟩;rw[show C.getD p HI.zero=i by grind]at hS;have hg:=hC i (aG hx);obtain⟨ad,rfl⟩:=hsome O;obtain⟨rd1,rd2⟩:=hg.rd;obtain⟨ra1,ra2⟩:=hg.ra;obtain⟨rb1,rb2⟩:=hg.rb;obtain⟨im1,im2⟩:=hg.imm;obtain⟨op1,op2⟩:=hg.op;obtain⟨op,rd,ra,rb,im⟩:=i;dsimp only at rd1 rd2 ra1 ra2 rb1 rb2 im1 im2 op1 op2;obtain⟨rd,rfl⟩:∃k:Nat,rd=k:=aj rd1;obtain⟨ra,rfl⟩:∃k:Nat,ra=k:=aj ra1;obtain⟨rb,rfl⟩:∃k:Nat,rb=k:=aj rb1;have hd0:Wr ⟨op,(rd:Int),(ra:Int),(rb:Int),im⟩ ⟨R,W,(p:Int)⟩=(bif op==0 then(0,⟨R,W,(p:Int)+1⟩)else bif op==1 then(0,⟨R.set rd im,W,(p:Int)+1⟩)else bif op==14||op==15 then(bif decide ((J W:Int)<=V9 .u64 (R.getD ra 0+im))then(4,⟨R,W,(p:Int)⟩)else bif op==14 then(0,⟨R.set rd (W.getD (V9 .u64 (R.getD ra 0+im)).toNat 0),W,(p:Int)+1⟩)else(0,⟨R,W.set (V9 .u64 (R.getD ra 0+im)).toNat (V9 .u32 (R.getD rb 0)),(p:Int)+1⟩))else bif op==16||op==17 then(0,⟨R,W,bif(R.getD ra 0==0)==(op==16)then im else(p:Int)+1⟩)else bif op==18 then(0,⟨R,W,im⟩)else bif op==19 then(1,⟨R,W,(p:Int)⟩)else(0,⟨R.set rd (kT op (R.getD ra 0) (R.getD rb 0)),W,(p:Int)+1⟩)):=rfl;rw[hd0,hW]at hS;have ea:=za hr ra;have eb:=za hr rb;obtain⟨a,hae⟩:=Do (R.getD ra 0);obtain⟨b,hbe⟩:=Do (R.getD rb 0);have hra:=hm_r (bw:=bw) (Ac:=some ad) (n:=J C) (cc:=cc) (pc:=(p:Int)) hR (show ra<16 by omega);have hrb:=hm_r (bw:=bw) (Ac:=some ad) (n:=J C) (cc:=cc) (pc:=(p:Int)) hR (show rb<16 by omega);rw[hae]at hS ea hra;rw[hbe]at hS eb hrb;have hpl2:V9 .u64 (a+im)=((V9 .u64 (a+im)).toNat:Nat):=(by rw[aP];omega);obtain⟨pl,hple⟩:∃k:Nat,(V9 .u64 (a+im)).toNat=k:=⟨_,I⟩;rw[hple]at hpl2;rw[hpl2,aV]at hS;refine UN ?_;refine bQ (Vg [11]) Zk (lO ?_);refine UE 2 17 ?_;refine Vn 3 I (bO ir py) (cT Zh (hm_c hR)) ?_;refine ZE 4 ?_;refine ZE 5 ?_;refine UE 6 18 ?_;refine Vn 7 I (bO ir py) (cT Zh (YB hR)) ?_;refine UY 8 I (cZ (j:=p) I ir (Zv I) (Zv I) UL UL) ?_;refine Vn 9 I (bX (vs:=[.i op,.i rd,.i ra,.i rb,.w im]) ir ir py) (Kh Zh (λj v hj=>fw (f:=HI.cells) ir (i:=j) hx hj)) ?_;refine cP 10 Zk ?_;refine ZP λb3=>?_
 refine cP 11 Zk (ZR ?_);refine pk ?_;refine jf ?_;refine ZE 0 ?_;refine UE 1 2 ?_;refine ZG 2 ?_;refine ZE 3 ?_;refine UE 4 0 ?_;refine UY 5 I (dj (j:=ra) (sz:=1) (r:=ra) I ir (Zv I) (Zv I) UL UL O) ?_;refine Vn 6 I (bO ir py) (cT Zh hra) ?_;refine ZE 7 ?_;refine UE 8 3 ?_;refine ZG 9 ?_;refine ZE 10 ?_;refine UE 11 0 ?_;refine UY 12 I (dj (j:=rb) (sz:=1) (r:=rb) I ir (Zv I) (Zv I) UL UL O) ?_;refine Vn 13 I (bO ir py) (cT Zh hrb) ?_;refine ZE 14 ?_;refine ZE 15 ?_;refine fh ?_;refine UU ?_;refine pQ ?_;refine Zy (dy py py hpl2) ?_;refine Va ?_;refine dZ (bO ir py) (cT Zh (YB hR)) I (mT ?_);refine wD ?_;refine ZW ?_ ?_<;>intro hc9
 .rw[hc9,ah]at hS;exact YL
 rw[hc9,ac]at hS;refine UH ?_ ?_<;>intro hc10
 .rw[hc10,ah]at hS;obtain⟨rfl,rfl⟩:=Prod.mk.inj hS;refine bQ (Vg [9]) Zk (IZ ?_);refine UE 3 4 ?_;refine ZG 4 ?_;refine UY 5 I (cz I I (Zv I) ψ) ?_;refine ZE 6 ?_;refine UE 7 0 ?_;refine UY 8 I (dj (j:=rd) (sz:=1) (r:=rd) I ir (Zv I) (Zv I) UL UL O) ?_;refine kt ?_;exact Wq124
 rw[hc10,ac]at hS;refine VJ ?_ ?_<;>intro hc12
 .rw[show(op==14||op==15)=true from by grind,ah]at hS;refine An ?_;refine bY I (hc12) (US ?_);refine dZ (bO ir py) (cT Zh (N0 hR)) I (ZA ?_);refine pQ ?_;refine VP ?_ ?_<;>intro hc14
  .exact Wx83_
  rw[hc14,ac]at hS;have hp256:pl<256:=(by simp at hc14;omega);have hxw:W[pl]? =some (W.getD pl 0):=(by rw[aS,ak O];rfl);have hwb:=iY hwd pl;obtain⟨x,hxe⟩:=Do (W.getD pl 0);rw[hxe]at hxw hwb hS;refine Wc ?_ ?_<;>intro hc16
  .exact Wx41_
  exact Wx46_
 refine Wh ?_ ?_<;>intro hc13
 .rw[show(op==14||op==15)=true from by grind,ah]at hS;refine US ?_;refine dZ (bO ir py) (cT Zh (N0 hR)) I (ZA ?_);refine pQ ?_;refine VP ?_ ?_<;>intro hc14
  .exact Wx83_
  rw[hc14,ac]at hS;have hp256:pl<256:=(by simp at hc14;omega);have hxw:W[pl]? =some (W.getD pl 0):=(by rw[aS,ak O];rfl);have hwb:=iY hwd pl;obtain⟨x,hxe⟩:=Do (W.getD pl 0);rw[hxe]at hxw hwb hS;refine Wc ?_ ?_<;>intro hc16
  .exact Wx41_
  exact Wx46_
 rw[show(op==14||op==15)=false from by grind,ac]at hS;refine VJ ?_ ?_<;>intro hc19
 .rw[show(op==16||op==17)=true from by grind,ah]at hS;refine An ?_;refine bY I (hc19) (oU ?_ ?_)<;>intro hc21
  .rw[hc21,ah]at hS;exact ν
  rw[hc21,ac]at hS;exact YL
 refine Wh ?_ ?_<;>intro hc20
 .rw[show(op==16||op==17)=true from by grind,ah]at hS;refine oU ?_ ?_<;>intro hc21
  .rw[hc21,ah]at hS;exact ν
  rw[hc21,ac]at hS;exact YL
 rw[show(op==16||op==17)=false from by grind,ac]at hS;refine UH ?_ ?_<;>intro hc23
 .rw[hc23,ah]at hS;exact ν
 rw[hc23,ac]at hS;refine UH ?_ ?_<;>intro hc25
 .rw[hc25,ah]at hS;obtain⟨rfl,rfl⟩:=Prod.mk.inj hS;refine Va ?_;refine tI ?_;exact fx
 rw[hc25,ac]at hS;obtain⟨rfl,rfl⟩:=Prod.mk.inj hS;refine bQ (Vg [11]) Zk (IZ ?_);refine UE 3 0 ?_;refine ZG 4 ?_;refine qM ?_;refine ZE 8 ?_;refine UE 9 0 ?_;refine iK ?_;refine V1 (λw hi=>Iu op a b ea eb w) ?_;refine UR ?_;refine UY 10 I (dj (j:=rd) (sz:=1) (r:=rd) I ir (Zv I) (Zv I) UL UL O) ?_;exact cP 11 Zk Wq124
end
end Go.Ink
