/- Lemmas. -/
import Derived.Test.YtepfimeihngjoaaGreatDoorYaj
import Derived.Test.YtepfimeihngjoaaGreatDoorYak
import Derived.Test.YtepfimeihngjoaaGreatDoorYal
set_option linter.all false
set_option maxRecDepth 100000
set_option maxHeartbeats 4000000
namespace Go.Ink
open List renaming length→J, replicate→R9
open IntKind renaming wrap→V9
open Go.RowKit Go.Proofs.Tryz
section
attribute [local irreducible] UL bM
variable{s:St}
variable{l:Li}
variable{n:Nat}
variable{M:Uy}
theorem Gj(h:M.ok n)(root va:Nat)(kind:Int)(Sy:Bool):(dw n M root va kind Sy).2.ok n:=by
 unfold dw;refine bJ (λq:(TE×Tr)×Uy=>q.2.ok n) h ?_;cases ia n M.data root va with
 |none=>exact h
 |some q=>
  obtain⟨a,l⟩:=q;refine bJ (λq:(TE×Tr)×Uy=>q.2.ok n) h ?_;exact bJ (λq:Uy=>q.ok n) (h.SY _ _ 4) h
theorem I0(n:Nat)(M:Uy)(root va:Nat)(hva:va<=4294967295)(kind:Int)(Sy:Bool):Ww (dw n M root va kind Sy).1.2:=by
 grind [i7,LV,dw,Ww,Yc,ia,trN]
variable{U:Uo}
theorem zD(h:U.m.ok n)(s:Sp)(va:Nat)(kind:Int):(SF n U s va kind).2.m.ok n:=by
 grind [Gj,SF]
theorem Cn(n:Nat)(U:Uo)(s:Sp)(va:Nat)(hva:va<=4294967295)(kind:Int):Ww (SF n U s va kind).1.2:=by
 grind [I0,trN,SF,Ww]
theorem pq(h:Wg n U)(s:Sp)(va:Nat)(kind:Int):Wg n (Sz n U s va kind).2:=by
 refine⟨?_,(pt n U s va kind).trans h.t⟩
 grind [zD,h.m,Sz]
theorem qZ(n:Nat)(U:Uo)(s:Sp)(va:Nat)(hva:va<=4294967295)(kind:Int):Ww (Sz n U s va kind).1.2:=by
 grind [Cn,Ww,Yc,i7,Sz]
theorem tY(a b:Int)(va k:Nat)(t:Tr)(U:Uo):(dh a b va k t U).2=U:=by
 grind [dh]
theorem GB(a b:Int){va:Nat}(hva:va<=4294967295)(k:Nat){t:Tr}(ht:Ww t)(U:Uo):Ww (dh a b va k t U).1.2:=by
 grind [dh,Ww,Yc,i7,jf]
theorem qP(h:Wg n U)(s:Sp)(va k:Nat)(kind:Int):Wg n (SM n U s va k kind).2:=by
 grind [pq,cT,SM,xO,tY,xN]
theorem zN(n:Nat)(U:Uo)(s:Sp)(va k:Nat)(hva:va<=4294967295)(kind:Int):Ww (SM n U s va k kind).1.2:=by
 grind [qZ,Sz,cT,jf,SM,xO,Ww,GB,xN]
theorem Hm(h:Wg n U)(s:Sp)(va:Nat){k:Nat}(hk:k<=4):u32 (iN n U s va k).1.1:=by
 have h1:=qP h s va k 2;have h2:=lb h1.m.db (SM n U s va k 2).1.1;have h3:(SM n U s va k 2).1.1.length<=4:=aR lP hk;show u32 (ef _ _);generalize ef (SM n U s va k 2).2.m.data (SM n U s va k 2).1.1=v at h2;generalize (SM n U s va k 2).1.1.length=m at h2 h3;obtain rfl|rfl|rfl|rfl|rfl:m=0\/m=1\/m=2\/m=3\/m=4:=by omega
 all_goals (refine⟨h2.1,?_⟩;simp at h2;omega)
theorem Cp(h:Wg n U)(s:Sp)(va k:Nat)(v:Int):Wg n (ja n U s va k v).2:=by
 have h1:=qP h s va k 3;exact⟨h1.m.SZ _ _ _,h1.t⟩
end
end Go.Ink
namespace Go.Ink
open List renaming length→J, replicate→R9
open IntKind renaming wrap→V9
open Go.RowKit Go.Proofs.Tryz
variable{n:Nat}
variable{s:St}
section
attribute [local irreducible] UL bM
def lF(n:Nat)(s:St)(U:Uo)(d:Un):we:=
 let q:=Sz n U s.space s.pc.toNat 1
 bif q.1.2.SB !=0 then⟨s.next.SL q.1.2.SB q.1.2.addr,0,false,q.2,d⟩else⟨s,q.1.1,true,q.2,d⟩
def cF(n:Nat)(s:St)(U:Uo)(d:Un):we:=
 bif !s.right||s.halted then⟨s,0,false,U,d⟩else lF n (told s (d.tick s.count)) U (d.tick s.count)
theorem Ξ(D:qK)(bm:Nat)(X:fv)(d:Un)(count:Int):CI prog 140 [.p D.bs,.int .u64 count] (lJ D bm X d) (λv cs=>v= .tuple #[]/\cs=lJ D bm X (d.tick count)):=λw hi=>by
 obtain⟨c,hc⟩:=Uk (((d.timer==0)||decide (V9 .u32 count<d.timer)));have HD:=due_ok D.bti d.timer count;have HR:=λA c w hi h=>nE D.bi d.SU d.mask A c [0] (λx hx=>by simp at hx;omega) w hi h
 rw[hc]at HD;rw[lines0]at HR;refine UH func140 ntmps140 hi ?_;refine Ux ?_;refine U5 ([NQ D.bti d.timer]) (λw hi hin=>HD w hin) ?_;refine py ?_;refine ZW ?_ ?_<;>intro hc0
 .obtain rfl:c=false:=(by cases c with|false=>rfl|true=>cases hc0);have ht:d.tick count={d with timer:=0,SU:=bits .or .u32 d.SU 1}:=(by unfold Un.tick;rw[hc];rfl);rw[ht];refine Uu ?_;refine jP ?_;rintro _ _ ⟨b14,rfl,rfl⟩;refine U5 ([ri D.bi d.SU d.mask]) (λw hi hin=>HR (sA b14) 1 w hin (λw' hk=>hi.TC Zi (Ur (slv 3 1 (sA b14) 1 1 (ints .i64 [0]))) hk)) ?_;refine Zn (bI (lJ D bm X {d with timer:=0,SU:=bits .or .u32 d.SU 1}) Zj ?_);exact Wq394
 obtain rfl:c=true:=(by cases c with|true=>rfl|false=>cases hc0);have ht:d.tick count=d:=(by unfold Un.tick;rw[hc];rfl);rw[ht];refine Zc (bI (lJ D bm X d) Zj ?_);exact Wq394
end
variable{w:World}
variable{e c:Nat}
section
variable{D R:Li}{f0:Int}{s:St}{op nn:Int}{w w':Lw}
variable{x:Int}
theorem nL{R':Um}(hs:s.right=true)(hp:dy op=true)(ho:eG op nn=true)(hm:AP s op nn=R')(ht:R'.SL=Tr.none)(hv:R'.device=false)
  (h1:(bR op).1.1<=J s.d) (h2:(bR op).2.1<=J s.r) (h3:J s.d+(bR op).1.2<=16+(bR op).1.1) (h4:J s.r+(bR op).2.2<=16+(bR op).2.1)
  (hl:LI D R w' R'.s.d R'.s.r) (hf:FL D R f0 w' R'.s.flags) (hpc:R'.s.pc=rF D R w' op nn (dS s op) R'.s.flags) (htg:w'.target= -1\/II.in_ w'.target w'.code) (hgo:op<32->w'.target= -1/\w'.branch=0)
  (hr:R'.s=⟨R'.s.pc,R'.s.d,R'.s.r,R'.s.flags,s.Sy,s.SJ,s.ie,s.root,s.vec,s.epc,s.SB,s.addr,s.SO,s.eie,V9 .u64 (s.count+1),s.halted⟩):∃s',D4 D R f0 s op nn w' s':=
 ⟨R'.s,Sc hs hp ho hm ht hv h1 h2 h3 h4,hl,hf,hpc,htg,hgo,hr⟩
theorem qp(h:(16<=op/\op<=23)\/op=25)(w:Lw)(n nx:Int):w.go op n nx=w.SH.2.SH.2.reckon op w.SH.2.SH.1 w.SH.1:=by
 have h:op=16\/op=17\/op=18\/op=19\/op=20\/op=21\/op=22\/op=23\/op=25:=by omega
 rcases h with rfl|rfl|rfl|rfl|rfl|rfl|rfl|rfl|rfl<;>rfl
theorem uo(h:(16<=op/\op<=23)\/op=25){l:Li}{x y:Int}(hd:s.d=(l++[x])++[y]):
  AP s op nn=bif op !=25 then((eV s op).wd (l++[(gP op x y).1])).wfl (gP op x y).2.1 else((eV s op).wd l).wfl (gP op x y).2.1:=by
 have e0:eV s op=(eV s op).wd ((l++[x])++[y]):=congrArg (λt=>(eV s op).wd t) hd;unfold AP;rw[(wK h (eV s op)).1];show(bif(bS op nn (eV s op)).1 then(bS op nn (eV s op)).2 else _)=_;rw[(wK h (eV s op)).2];have e1:(eV s op).top=y:=(congrArg Um.top e0).trans (Um.top_wd _ _ _);have e2:(eV s op).pop=(eV s op).wd (l++[x]):=(congrArg Um.pop e0).trans (Um.pop_wd _ _ _);have e3:(eV s op).pop.top=x:=(congrArg Um.top e2).trans (Um.top_wd _ _ _);have e4:(eV s op).pop.pop=(eV s op).wd l:=(congrArg Um.pop e2).trans (Um.pop_wd _ _ _);rw[e1,e3,e4]
 rfl
theorem one_ok(hp:dy op=true)(ho:eG op nn=true)(hs:s.right=true)(h:LI D R w s.d s.r)(hf:FL D R f0 w s.flags)(hD:J D<=16)(hR:J R<=16)(ht:w.target= -1)(hb:w.branch=0)
  (n1:(w.one op nn (dS s op)).d.SK<=(J D:Int)) (n2:(w.one op nn (dS s op)).r.SK<=(J R:Int))
  (g1:(J D:Int)+(w.one op nn (dS s op)).d.high<=16) (g2:(J R:Int)+(w.one op nn (dS s op)).r.high<=16):∃s',D4 D R f0 s op nn (w.one op nn (dS s op)) s':=by
 obtain⟨q1,q2, -⟩:=St.fits hs;obtain⟨nx,hnx⟩:=Uk (dS s op);rcases qc hp with rfl|rfl|rfl|rfl|rfl|rfl|rfl|rfl|rfl|hr|hr|rfl|hr|rfl|rfl|rfl
 .refine iQ s.d s.r hs hp ho I (ay _) (ay _) q1 q2 h.SN hf hb ht I
 .have h6:LI D R (w.one 1 nn nx) (s.d++[nn]) s.r:=by
   exact Wq274
  have h8:=h6.T1;rw[hnx]at g1;refine iQ (s.d++[nn]) s.r hs hp ho I (ay _) (ay _) (show J s.d+1<=16+0 from ?_) q2 (hnx▸h6) (hf.app (w':=w.one 1 nn (dS s 1)) I I) hb ht I;have h9:((J (s.d++[nn]):Nat):Int)<=_:=h8;have h10:=Int.le_trans h9 g1
  grind
 .have h6:LI D R (w.one 2 nn nx) (s.d++[nn]) s.r:=by
   exact Wq274
  have h8:=h6.T1;rw[hnx]at g1;refine iQ (s.d++[nn]) s.r hs hp ho I (ay _) (ay _) (show J s.d+1<=16+0 from ?_) q2 (hnx▸h6) (hf.app (w':=w.one 2 nn (dS s 2)) I I) hb ht I;have h9:((J (s.d++[nn]):Nat):Int)<=_:=h8;have h10:=Int.le_trans h9 g1
  grind
 .obtain⟨l,x,k1,k2,k3,k4,e,k5⟩:=qW h O n1;have h6:LI D R (w.one 3 nn nx) (l++[x,x]) s.r:=by
   have h7:=(k2.Tt [w.SH.1,w.SH.1] Do).SN;rw[show[w.SH.1,w.SH.1].map (eB D R w.SH.2.code)=[x,x] by simp[k4]]at h7;exact h7
  have h8:((J (l++[x,x]:Li):Nat):Int)<=_:=h6.T1;rw[hnx]at g1;have h10:=Int.le_trans h8 g1;have h11:=oC k1;simp at h10;refine iQ (l++[x,x]) s.r hs hp ho ((congrArg (λt=>cV 3 nn ((eV s 3).wd t)) k1).trans (mq nn (eV s 3) l x)) (show 1<=J s.d by omega) (ay _) (show J s.d+2<=16+1 by omega) q2 (hnx▸h6) (hf.app (w':=w.one 3 nn (dS s 3)) k5 rfl) hb ht rfl
 .obtain⟨l,x,k1,k2,k3,k4,e,k5⟩:=qW h O n1;have h6:LI D R (w.one 4 nn nx) (l) s.r:=by
   have h7:=k2.SN;exact h7
  have h8:((J (l:Li):Nat):Int)<=_:=h6.T1;rw[hnx]at g1;have h10:=Int.le_trans h8 g1;have h11:=oC k1;refine iQ (l) s.r hs hp ho ((congrArg (λt=>cV 4 nn ((eV s 4).wd t)) k1).trans (la nn (eV s 4) l x)) (show 1<=J s.d by omega) (ay _) (show J s.d+0<=16+1 by omega) q2 (hnx▸h6) (hf.app (w':=w.one 4 nn (dS s 4)) k5 rfl) hb ht rfl
 .obtain⟨l,x,y,k1,k2,k3,k4,k5,k6,e,k7⟩:=yn h O n1;have h6:LI D R (w.one 5 nn nx) (l++[y,x]) s.r:=by
   have h7:=(k2.Tt [w.SH.1,w.SH.2.SH.1] Do).SN;rw[show[w.SH.1,w.SH.2.SH.1].map (eB D R w.SH.2.SH.2.code)=[y,x] by grind]at h7;exact h7
  have h8:((J (l++[y,x]:Li):Nat):Int)<=_:=h6.T1;rw[hnx]at g1;have h10:=Int.le_trans h8 g1;have h11:J s.d=J l+2:=by rw[k1];simp
  simp at h10;refine iQ (l++[y,x]) s.r hs hp ho ((congrArg (λt=>cV 5 nn ((eV s 5).wd t)) k1).trans (k8 nn (eV s 5) l x y)) (show 2<=J s.d by omega) (ay _) (show J s.d+2<=16+2 by omega) q2 (hnx▸h6) (hf.app (w':=w.one 5 nn (dS s 5)) k7 rfl) hb ht rfl
 .obtain⟨l,x,y,k1,k2,k3,k4,k5,k6,e,k7⟩:=yn h O n1;have h6:LI D R (w.one 6 nn nx) (l++[x,y,x]) s.r:=by
   have h7:=(k2.Tt [w.SH.2.SH.1,w.SH.1,w.SH.2.SH.1] Do).SN;rw[show[w.SH.2.SH.1,w.SH.1,w.SH.2.SH.1].map (eB D R w.SH.2.SH.2.code)=[x,y,x] by grind]at h7;exact h7
  have h8:((J (l++[x,y,x]:Li):Nat):Int)<=_:=h6.T1;rw[hnx]at g1;have h10:=Int.le_trans h8 g1;have h11:J s.d=J l+2:=by rw[k1];simp
  simp at h10;refine iQ (l++[x,y,x]) s.r hs hp ho ((congrArg (λt=>cV 6 nn ((eV s 6).wd t)) k1).trans (k9 nn (eV s 6) l x y)) (show 2<=J s.d by omega) (ay _) (show J s.d+3<=16+2 by omega) q2 (hnx▸h6) (hf.app (w':=w.one 6 nn (dS s 6)) k7 rfl) hb ht rfl
 .obtain⟨l,x,k1,k2,k3,k4,e,k5⟩:=qW h O n1;have h6:LI D R (w.one 7 nn nx) l (s.r++[x]):=by
   have h7:=(k2.TX [w.SH.1] Do).SN;rw[show[w.SH.1].map (eB D R w.SH.2.code)=[x] by simp[k4]]at h7;exact h7
  have h8:((J (s.r++[x]:Li):Nat):Int)<=_:=h6.lenR;rw[hnx]at g2;have h10:=Int.le_trans h8 g2;have h11:=oC k1;simp at h10;refine iQ l (s.r++[x]) hs hp ho ((congrArg (λt=>cV 7 nn ((eV s 7).wd t)) k1).trans (mn nn (eV s 7) l x)) (show 1<=J s.d by omega) (ay _) (show J s.d+0<=16+1 by omega) (show J s.r+1<=16+0 by omega) (hnx▸h6) (hf.app (w':=w.one 7 nn (dS s 7)) k5 rfl) hb ht rfl
 .obtain⟨l,x,k1,k2,k3,k4,e,k5⟩:=J7 h O n2;have h6:LI D R (w.one 8 nn nx) (s.d++[x]) l:=by
   have h7:=(k2.Tt [w.Ti.1] Do).SN;rw[show[w.Ti.1].map (eB D R w.Ti.2.code)=[x] by simp[k4]]at h7;exact h7
  have h8:((J (s.d++[x]:Li):Nat):Int)<=_:=h6.T1;rw[hnx]at g1;have h10:=Int.le_trans h8 g1;have h11:=oC k1;simp at h10;refine iQ (s.d++[x]) l hs hp ho ((congrArg (λt=>cV 8 nn ((eV s 8).wr t)) k1).trans (jZ nn (eV s 8) l x)) (ay _) (show 1<=J s.r by omega) (show J s.d+1<=16+0 by omega) (show J s.r+0<=16+1 by omega) (hnx▸h6) (hf.app (w':=w.one 8 nn (dS s 8)) k5 rfl) hb ht rfl
 .have hr2:(16<=op/\op<=23)\/op=25:=Or.inl hr;have e25:(op !=25)=true:=by simp;omega
  have ew:w.one op nn (dS s op)=(((((w.SH.2.SH.2.add 4 w.SH.2.SH.1 w.SH.1 op).wfl w.SH.2.SH.2.here).add 3 w.SH.2.SH.1 w.SH.1 op).Tt [((w.SH.2.SH.2.add 4 w.SH.2.SH.1 w.SH.1 op).wfl w.SH.2.SH.2.here).here])).SN:=by
   refine(congrArg Lw.SN (qp hr2 w nn _)).trans (congrArg Lw.SN ?_);unfold Lw.reckon;rw[e25]
   rfl
  rw[ew]at n1 n2 g1 g2|-;obtain⟨l,x,y,k1,k2,k3,k4,k5,k6,e,k7⟩:=yn h O n1;have h6:=(((k2.add 4 w.SH.2.SH.1 w.SH.1 op).wfl w.SH.2.SH.2.here).add 3 w.SH.2.SH.1 w.SH.1 op).Tt [((w.SH.2.SH.2.add 4 w.SH.2.SH.1 w.SH.1 op).wfl w.SH.2.SH.2.here).here] (λn hn=>by
   rw[aQ.1 hn];exact oW _ _)
  have hv:=alu_new (D:=D) (R:=R) (op:=op) (c:=w.SH.2.SH.2.code++[⟨4,J w.SH.2.SH.2.code,w.SH.2.SH.1,w.SH.1,op⟩]) ((g9 k5).trans k6) ((g9 k3).trans k4);rw[List.map_cons,List.map_nil]at h6;have h7:=Eq.mp (congrArg (λv=>LI D R ((((w.SH.2.SH.2.add 4 w.SH.2.SH.1 w.SH.1 op).wfl w.SH.2.SH.2.here).add 3 w.SH.2.SH.1 w.SH.1 op).Tt [((w.SH.2.SH.2.add 4 w.SH.2.SH.1 w.SH.1 op).wfl w.SH.2.SH.2.here).here]) (l++[v]) s.r) hv) h6;have h8:=h7.SN.T1;have h10:=Int.le_trans h8 g1;have h11:J s.d=J l+2:=by rw[k1];simp
  simp at h10;refine nL (R':=((eV s op).wd (l++[(gP op x y).1])).wfl (gP op x y).2.1) hs hp ho (by grind [uo]) rfl rfl ?_ ?_ ?_ ?_ h7.SN ?_ ?_ (Or.inl ht) (λ_=>⟨ht,hb⟩) I
  .grind [lf]
  .grind [lf]
  .grind [lf]
  .grind [lf]
  .exact Or.inr ⟨sh _ (oW _ _),((g9 (oW _ _)).trans (Fz k6 k4)).symm⟩
  refine Eq.symm (tG ?_ ?_ (jump_no hr2))
  .exact hb
  exact ht
 .subst hr;have ew:w.one 25 nn (dS s 25)=((w.SH.2.SH.2.add 4 w.SH.2.SH.1 w.SH.1 25).wfl w.SH.2.SH.2.here).SN:=rfl;rw[ew]at n1 n2 g1 g2|-;obtain⟨l,x,y,k1,k2,k3,k4,k5,k6,e,k7⟩:=yn h O n1;have h7:=((k2.add 4 w.SH.2.SH.1 w.SH.1 25).wfl w.SH.2.SH.2.here).SN;have h11:J s.d=J l+2:=by rw[k1];simp
  refine nL (R':=((eV s 25).wd l).wfl (gP 25 x y).2.1) hs hp ho (by rw[uo (Or.inr rfl) k1];rfl) rfl rfl (show 2<=J s.d by omega) (ay _) (show J s.d+0<=16+2 by omega) q2 h7 ?_ ?_ (Or.inl ht) (λ_=>⟨ht,hb⟩) I
  .exact Or.inr ⟨oW _ _,(Fz k6 k4).symm⟩
  refine Eq.symm (tG ?_ ?_ I)
  .exact hb
  exact ht
 .refine nL (R':=(eV s 32).wpc (fW (eV s 32) nn)) hs hp ho I I I (ay _) (ay _) q1 q2 h.SN hf ?_ (Or.inl ht) (λh=>absurd h An) I;show _=bif(cZ w.branch s.flags).1 then _ else bif w.target== -1 then _ else _
  rw[hb,ht];rfl
 .have h5:op=33\/op=34\/op=35\/op=36\/op=37:=by omega
  have eg:w.one op nn (dS s op)=(w.wbr op).SN:=by rcases h5 with rfl|rfl|rfl|rfl|rfl<;>rfl
  have eq:bR op=((0,0),(0,0)):=by rcases h5 with rfl|rfl|rfl|rfl|rfl<;>rfl
  have ej:(op==32||op==38)=false:=by rcases h5 with rfl|rfl|rfl|rfl|rfl<;>rfl
  rw[eg]at n1 n2 g1 g2|-;have em:AP s op nn=bif(cZ op s.flags).1 then(eV s op).wpc (fW (eV s op) nn)else eV s op:=by
   unfold AP;rw[(Fg hr _).1];show(bif(bS op nn (eV s op)).1 then(bS op nn (eV s op)).2 else _)=_;rw[(Fg hr _).2];rfl
  cases hh:(cZ op s.flags).1 with
  |true=>
   rw[hh]at em;refine nL (R':=(eV s op).wpc (fW (eV s op) nn)) hs hp ho em I I Do Do Do Do (h.wbr op).SN hf ?_ (Or.inl ht) (λh=>absurd h O) I;show _=bif(cZ op s.flags).1 then _ else _
   rw[hh];rfl
  |false=>
   rw[hh]at em;refine nL (R':=eV s op) hs hp ho em I I Do Do Do Do (h.wbr op).SN hf ?_ (Or.inl ht) (λh=>absurd h O) I;show _=bif(cZ op s.flags).1 then _ else bif w.target== -1 then(bif op==32||op==38 then _ else _)else _
   rw[hh,ht,ej];rfl
 .have ew:w.one 38 nn (dS s 38)=((w.add 0 0 0 (dS s 38)).TX [w.here]).SN:=rfl;rw[ew]at n1 n2 g1 g2|-;have h7:=((h.add 0 0 0 (dS s 38)).TX [w.here] (λn hn=>by rw[aQ.1 hn];exact oW _ _)).SN;rw[List.map_cons,List.map_nil,show eB D R (w.add 0 0 0 (dS s 38)).code w.here=dS s 38 from kv _ _]at h7;have h10:=Int.le_trans h7.lenR g2;simp at h10;refine nL (R':=((eV s 38).TY (dS s 38)).wpc (fW (eV s 38) nn)) hs hp ho I I I (ay _) (ay _) q1 (show J s.r+1<=16+0 by omega) h7 (hf.app (w':=((w.add 0 0 0 (dS s 38)).TX [w.here]).SN) rfl rfl) ?_ (Or.inl ht) (λh=>absurd h An) I;show _=bif(cZ w.branch s.flags).1 then _ else bif w.target== -1 then _ else _
  rw[hb,ht];rfl
 .have ew:w.one 39 nn (dS s 39)=(w.Ti.2.wtg w.Ti.1).SN:=rfl;rw[ew]at n1 n2 g1 g2|-;obtain⟨l,x,k1,k2,k3,k4,e,k5⟩:=J7 h O n2;have h11:=oC k1;have e0:eV s 39=(eV s 39).wr (l++[x]):=congrArg (λt=>(eV s 39).wr t) k1;have e1:(eV s 39).topR=x:=(congrArg Um.topR e0).trans (Um.topR_wr _ _ _);have e2:(eV s 39).Ti=(eV s 39).wr l:=(congrArg Um.Ti e0).trans (Um.popR_wr _ _ _);have em:AP s 39 nn=((eV s 39).wr l).wpc x:=by
   have:AP s 39 nn=(eV s 39).Ti.wpc (eV s 39).topR:=rfl;rw[this,e1,e2]
  have e3:(w.Ti.1== -1)=false:=by have:=k3.1;simp;omega
  refine nL (R':=((eV s 39).wr l).wpc x) hs hp ho em I I (ay _) (show 1<=J s.r by omega) q1 (show J s.r+0<=16+1 by omega) (k2.wtg _).SN (hf.app (w':=(w.Ti.2.wtg w.Ti.1).SN) k5 rfl) ?_ (Or.inr k3) (λh=>absurd h An) I;show x=bif(cZ w.branch s.flags).1 then _ else bif w.Ti.1== -1 then _ else eB D R w.Ti.2.code w.Ti.1
  rw[hb,e3,k4];rfl
 have ew:w.one 40 nn (dS s 40)=(w.SH.2.wtg w.SH.1).SN:=rfl;rw[ew]at n1 n2 g1 g2|-;obtain⟨l,x,k1,k2,k3,k4,e,k5⟩:=qW h O n1;have h11:=oC k1;have e0:eV s 40=(eV s 40).wd (l++[x]):=congrArg (λt=>(eV s 40).wd t) k1;have e1:(eV s 40).top=x:=(congrArg Um.top e0).trans (Um.top_wd _ _ _);have e2:(eV s 40).pop=(eV s 40).wd l:=(congrArg Um.pop e0).trans (Um.pop_wd _ _ _);have em:AP s 40 nn=((eV s 40).wd l).wpc x:=by
  have:AP s 40 nn=(eV s 40).pop.wpc (eV s 40).top:=rfl;rw[this,e1,e2]
 have e3:(w.SH.1== -1)=false:=by have:=k3.1;simp;omega
 refine nL (R':=((eV s 40).wd l).wpc x) hs hp ho em I I (show 1<=J s.d by omega) (ay _) (show J s.d+0<=16+1 by omega) q2 (k2.wtg _).SN (hf.app (w':=(w.SH.2.wtg w.SH.1).SN) k5 rfl) ?_ (Or.inr k3) (λh=>absurd h An) I;show x=bif(cZ w.branch s.flags).1 then _ else bif w.SH.1== -1 then _ else eB D R w.SH.2.code w.SH.1
 rw[hb,e3,k4];rfl
end
end Go.Ink
namespace Go.Ink
open List renaming length→J
open IntKind renaming wrap→V9
open Go.RowKit Go.Proofs.Tryz
variable{op:Int}
variable{z:Nat}
variable{k:Nat}
section
attribute [local irreducible] UL bM
variable{n:Nat}{M:Uy}{p:Nat}
theorem GD(L:ez)(M:Uy)(p:Nat)(hp:L.n<=p)(w:World)(h:(eY L M).ok w):CW prog 144 [.p L.bm,.i p] w (.tuple #[.slice none 0 0,.bool false]):=by
 obtain⟨n1,n64,hdl,hdb,htl⟩:=mQ h;obtain⟨k0,hr0,h1,h2,h3,h4⟩:=qg h;refine UB func144 ntmps144 ?_;refine Wq221 ?_;refine Vb ?_;refine Ut ?_;refine bV I ((by rw[ak (show(L.n:Int)<=p by omega)];rfl)) (UG ?_);exact kV
theorem FB(bu bb:Nat)(L:ez)(M:Uy)(p:Nat)(hp:p<=4294967295)(w:World)(hu:(Cm bu L.bm bb).ok w)(h:(eY L M).ok w):
  CW prog 148 [.p bu,.w (p:Int)] w (.tuple #[.agg (insV (dI L.n M p)).toArray,.i (insN (dI L.n M p):Int),.bool (dI L.n M p).isSome]):=by
 obtain⟨n1,n64,hdl,hdb,htl⟩:=mQ h;have hq:V9 .u32 ((p:Int).tdiv 64)=((p/64:Nat):Int):=by rw[bj O,u32_wrap_id _ O O];omega
 have hrm:(p:Int).tmod 64=((p%64:Nat):Int):=by rw[aw O];omega
 by_cases hpn:p/64<L.n
 .have HP:=x0 L M (p/64) hpn;rw[w9 hpn];have hXl:J ((M.data.drop (p/64*64)).take 64)=64:=by rw[aU,List.length_drop];omega
  have hXb:UO ((M.data.drop (p/64*64)).take 64):=λx hx=>hdb x (bD (aX hx))
  obtain⟨X,hX⟩:=Uk ((M.data.drop (p/64*64)).take 64);rw[hX]at HP hXl hXb|-;have hbl:J (X.drop (p%64))=64 - p%64:=by rw[List.length_drop,hXl]
  have HD:=λA c w h=>BE A c (X.drop (p%64)) (λx hx=>hXb x (bD hx)) w h
  rw[hbl]at HD;obtain⟨o,ho⟩:=Uk (dH (X.drop (p%64)));rw[ho]at HD|-;refine UB func148 ntmps148 ?_;refine py ?_;refine ZN λb4=>?_;refine gX ?_;refine Wq463 ?_;refine sO ?_;refine UW (λw hi=>HP w (bH.old h hi)) ?_;rintro _ _ ⟨bq,rfl,rfl⟩;refine qB ?_;refine UA ?_;refine Zy (fH (Zv I) (Zv I) O hrm) ?_;refine Zy (kX (sz:=1) (lo:=p%64) (hi:=64) (r:=p%64) I ir (Zv I) (.inr ⟨_,_,I,(Zv I)⟩) (.inl ⟨I,I⟩) O O O O) ?_;refine UW (λw hi=>HD (some ⟨bq,p%64,none⟩) (64 - p%64) w (cut64 (hi.rd (Ur (sl .u8 5 (sA bq) 64 64 X))) O hXl)) ?_;rintro _ _ ⟨⟨y,rfl,hy⟩,rfl⟩;refine Ut ?_;refine ZN λb9=>?_
  refine ZM ?_;refine UE ?_;refine Zy (oK (Zv I) (Zv I) hy) ?_;refine mS ?_;refine v8 ?_;exact ff
 have HP:=GD L M (p/64) O;rw[w8 O];refine UB func148 ntmps148 ?_;refine py ?_;refine ZN λb4=>?_;refine gX ?_;refine Wq463 ?_;refine sO ?_;refine UD (λw hi=>HP w (bH.old h hi)) ?_;refine jG ?_;refine mV ?_;refine Us ?_;refine iS ?_;refine v8 ?_;exact ff
variable{x:Nat}
variable{m:Int}
variable{s:St}{U:Uo}{d:Un}
theorem rD(h:(!s.right||s.halted)=true):cF n s U d=⟨s,0,false,U,d⟩:=by
 unfold cF;rw[h]
 rfl
variable{s1:St}{d1:Un}
theorem rE(h:(!s.right||s.halted)=false)(hd:d.tick s.count=d1)(hs:told s d1=s1):cF n s U d=lF n s1 U d1:=by
 unfold cF;rw[h,hd,hs]
 rfl
theorem F4(bu bb:Nat)(L:ez)(D:qK)(Y:fv)(s:St)(hwf:s.wf)(Ad Ar:Oa)(cd cr:Nat)(U:Uo)(hT:J U.t=16)(d:Un)(hm:(d.tick s.count).lines)(w:World)(hi:Inv w (bK (Vq bu bb L D Y U d)) (Vq bu bb L D Y U d) w)
  (h:∀w',cX (bK (Vq bu bb L D Y U d)) w w'->kS w' s Ad Ar cd cr) (ht:∀w',cX (bK (Vq bu bb L D Y U d)) w w'->lG w'):
  Uz prog 93 [sv s Ad cd Ar cr,.p bu,.p D.bs] w (Vq bu bb L D Y U d)
   (λv cs=>∃X,v= .agg (qy (cF L.n s U d) X).toArray/\cs=[UP (cF L.n s U d).s X.Ad X.cd,UU (cF L.n s U d).s X.Ar X.cr]++Vq bu bb L D Y (cF L.n s U d).u (cF L.n s U d).d):=by
 have HR:=oe s Ad Ar cd cr;have HR2:=oe s;cases hrh:(!s.right||s.halted)with
 |true=>
  rw[rD hrh];obtain⟨rt,hrt⟩:=Uk (s.right);rw[hrt]at HR2 hrh;refine UH func93 ntmps93 hi ?_;refine py ?_;refine ZO λb3=>?_;refine ZN λb6=>?_
  refine M9 ?_;rintro _ _ ⟨_,⟨A1,c1,A2,c2,rfl,rfl⟩,rfl⟩;refine QE ?_;refine oQ ?_;refine bV I ((by rw[hrh];rfl)) (Ut ?_);refine iz ?_;exact bI ([row b6 (qy ⟨s,0,false,U,d⟩ ⟨A1,c1,A2,c2⟩) 177,UP s A1 c1,UU s A2 c2]++Vq bu bb L D Y U d) Zj (mz (cs':=([UP s A1 c1,UU s A2 c2]++Vq bu bb L D Y U d)) (.inl I) Zu I I Zh ir ir ⟨⟨A1,c1,A2,c2⟩,I,I⟩)
 |false=>
  simp only[aY,Bool.not_eq_false']at hrh;obtain⟨hr,hh⟩:=hrh;obtain⟨hd16,hr16,hf15⟩:=St.fits hr;obtain⟨d1,hd1⟩:=Uk (d.tick s.count);obtain⟨s1,hs1⟩:=Uk (told s d1);rw[rE (by rw[hr,hh];rfl) hd1 hs1];rw[hd1]at hm;obtain⟨x,hx,hx256⟩:=MH (p:=d1.SU) hm.mask;have HN:=Hp D.bi x d1.SU d1.mask hx hx256;have HK:=Ξ D L.bm Y d s.count;rw[hd1]at HK;have hY:=λk h1 h2=>Et (s:=s) (d:=d1) (x:=x) (k:=k) hx h1 h2
  have hN:=Jh (s:=s) (d:=d1) (x:=x) hx;have hlt:=λk (h:jy x=some k)=>RR h
  obtain⟨o,ho⟩:=Uk (jy x);rw[ho]at HN hY hN hlt;have hw1:s1.wf/\J s1.d<=16/\J s1.r<=16:=by
   cases hc:(o.isSome&&s.ie)with
   |true=>
    cases o with
    |none=>cases hc
    |some k=>
     exact Wq389
   |false=>rw[<-hs1,hN hc];exact⟨hwf,hd16,hr16⟩
  obtain⟨hwf1,hs16,hq16⟩:=hw1;refine UH func93 ntmps93 hi ?_;refine py ?_;refine ZO λb3=>?_;refine ZN λb6=>?_
  refine M9 ?_;rintro _ _ ⟨_,⟨A1,c1,A2,c2,rfl,rfl⟩,rfl⟩;refine QE ?_;refine oQ ?_;refine cG I ((by rw[hr,hh];rfl)) (Ux ?_);refine U5 (lJ D L.bm Y d) (λw hi hin=>HK w hin) ?_;refine py ?_;refine cq (λX:eN=>[(1,.p bu),(3,.p b3),(6,.p b6)]) (λX=>[row b3 (s1.cells (.slice X.Ad (J s1.d) X.cd) (.slice X.Ar (J s1.r) X.cr)) 36,row b6 (qy ⟨St.zero,0,false,U,d⟩ ⟨none,0,none,0⟩) 177,UP s1 X.Ad X.cd,UU s1 X.Ar X.cr]++Vq bu bb L D Y U d1) (λ_=>True) ?_ ?_
  .refine UA ?_;refine UD (λw hi=>HN w (hi.get Zh) (ht w hi.S1)) ?_;refine mU ?_;refine ZW ?_ ?_<;>intro hc6
   .obtain⟨k,rfl⟩:∃k,o=some k:=(by cases o with|none=>cases hc6|some k=>exact⟨k,I⟩);have hk8:=hlt k I;obtain rfl:s1=s.SL ((16+k:Nat):Int) 0:=(by rw[<-hs1];exact hY k I hc6);refine Wq253 ?_;refine UW (λw hi=>tR s A1 A2 c1 c2 ((16+k:Nat):Int) 0 w (hi.TM (Ur (UP s A1 c1)) (Ur (UU s A2 c2)) O O)) ?_;exact Wx73_
   obtain rfl:s1=s:=(by rw[<-hs1];exact hN hc6);refine Zc (UN ((⟨A1,c1,A2,c2⟩:eN)) iF)
  rintro⟨A5,c5,A6,c6⟩ -;clear hY hN hs1;obtain⟨pc,dd,rr,fl,su,pg,ie,rt,ve,ep,ca,ad,es,ei,co,ha⟩:=s1;obtain⟨pcN,rfl⟩:∃m:Nat,pc=m:=ai hwf1.pc.1;obtain⟨rtN,rfl⟩:∃m:Nat,rt=m:=ai hwf1.root.1;have hpc2:=hwf1.pc.2;have hrt2:=hwf1.root.2;dsimp only at hpc2 hrt2 hs16 hq16;have HP:=pR bu bb L U hT ⟨pg,su,rtN⟩ (show rtN<=4294967295 by omega) pcN O 1;have hgo:lF L.n ⟨pcN,dd,rr,fl,su,pg,ie,rtN,ve,ep,ca,ad,es,ei,co,ha⟩ U d1=(bif(Sz L.n U ⟨pg,su,rtN⟩ pcN 1).1.2.SB !=0 then⟨St.SL (St.next ⟨pcN,dd,rr,fl,su,pg,ie,rtN,ve,ep,ca,ad,es,ei,co,ha⟩) (Sz L.n U ⟨pg,su,rtN⟩ pcN 1).1.2.SB (Sz L.n U ⟨pg,su,rtN⟩ pcN 1).1.2.addr,0,false,(Sz L.n U ⟨pg,su,rtN⟩ pcN 1).2,d1⟩else⟨⟨pcN,dd,rr,fl,su,pg,ie,rtN,ve,ep,ca,ad,es,ei,co,ha⟩,(Sz L.n U ⟨pg,su,rtN⟩ pcN 1).1.1,true,(Sz L.n U ⟨pg,su,rtN⟩ pcN 1).2,d1⟩):=rfl;obtain⟨⟨⟨pl,⟨tc,ta⟩⟩,U1⟩,hq⟩:=Uk (Sz L.n U ⟨pg,su,rtN⟩ pcN 1);rw[hq]at HP hgo;dsimp only at hgo;rw[hgo];refine fo ?_;refine U5 (uF bu bb L U) (λw hi hin=>HP w hin) ?_;refine Us ?_;refine ZN λb10=>?_
  refine ZA ?_;refine rI ?_;refine ZW ?_ ?_<;>intro hc9
  .rw[hc9,ae];refine Ut ?_;refine kR ?_;refine mR ?_;refine UE ?_;refine UW (λw hi=>tR (St.next ⟨pcN,dd,rr,fl,su,pg,ie,rtN,ve,ep,ca,ad,es,ei,co,ha⟩) A5 A6 c5 c6 tc ta w (hi.TM (Ur (sl .u32 32 A5 (J dd) c5 dd)) (Ur (sl .u32 32 A6 (J rr) c6 rr)) (show J dd*4<=_ by omega) (show J rr*4<=_ by omega))) ?_;rintro _ _ ⟨A7,c7,A8,c8,rfl,rfl⟩;refine ZA ?_;refine iz ?_;exact bI ([row b6 (qy ⟨St.SL (St.next ⟨pcN,dd,rr,fl,su,pg,ie,rtN,ve,ep,ca,ad,es,ei,co,ha⟩) tc ta,0,false,U1,d1⟩ ⟨A7,c7,A8,c8⟩) 177,sl .u32 32 A7 (J dd) c7 dd,sl .u32 32 A8 (J rr) c8 rr]++Vq bu bb L D Y U1 d1) Zj (mz (cs':=([sl .u32 32 A7 (J dd) c7 dd,sl .u32 32 A8 (J rr) c8 rr]++Vq bu bb L D Y U1 d1)) (.inl I) Zu I I Zh ir ir ⟨⟨A7,c7,A8,c8⟩,I,I⟩)
  rw[hc9,ac];refine Ux ?_;refine kQ ?_;exact bI ([row b6 (qy ⟨⟨pcN,dd,rr,fl,su,pg,ie,rtN,ve,ep,ca,ad,es,ei,co,ha⟩,pl,true,U1,d1⟩ ⟨A5,c5,A6,c6⟩) 177,sl .u32 32 A5 (J dd) c5 dd,sl .u32 32 A6 (J rr) c6 rr]++Vq bu bb L D Y U1 d1) Zj (mz (cs':=([sl .u32 32 A5 (J dd) c5 dd,sl .u32 32 A6 (J rr) c6 rr]++Vq bu bb L D Y U1 d1)) (.inl I) Zu I I Zh ir ir ⟨⟨A5,c5,A6,c6⟩,I,I⟩)
section
variable{n:Nat}{op nn:Int}{d:Un}{M:Uy}
theorem NT(h:d.ok)(c:Int):(d.tick c).ok/\(d.tick c).out=d.out:=by
 unfold Un.tick;exact bJ (λq:Un=>q.ok/\q.out=d.out) ⟨h,I⟩ ⟨⟨h.wf.re I I I I,eu .or d.SU 1,h.mask,u0,h.status⟩,I⟩
theorem jl(hM:M.ok n){p:Nat}{op nn:Int}{z:Nat}(h:dI n M p=some ((op,nn),z)):u32 nn/\1<=z/\z<=5/\p/64<n/\p%64+z<=64:=by
 unfold dI at h;cases h1:decide (p/64<n)with
 |false=>rw[h1]at h;cases h
 |true=>
  rw[h1,ae]at h;obtain⟨a,b,c,e⟩:=nN (λx hx=>hM.db x (bD (aX (bD hx)))) h;refine⟨a,b,c,by simpa using h1,?_⟩;rw[List.length_drop,aU]at e;omega
end
structure Vp(n:Nat)(s:St)(U:Uo)(d:Un):Prop where
 wf:s.wf
 right:s.right=true
 u:Wg n U
 dv:d.ok
 lines:d.lines
section
variable{n:Nat}{s:St}{U:Uo}{d:Un}
structure BegOk(n:Nat)(s:St)(d:Un)(b:we):Prop where
 g:Vp n b.s b.u b.d
 place:u32 b.place
 out:b.d.out=d.out
 runs:b.runs=true->b.s.count=s.count/\b.s.halted=s.halted/\s.halted=false
 stays:b.runs=false->s.halted=false->b.s.count=V9 .u64 (s.count+1)/\b.s.halted=false
 held:s.halted=true->b=⟨s,0,false,b.u,b.d⟩
theorem kp(h:Vp n s U d):BegOk n s d (cF n s U d):=by
 obtain⟨t1,t2⟩:=NT h.dv s.count;have t3:=nY h.lines s.count;obtain⟨w1,w2,w3,w4⟩:=Ji (s:=s) (d:=d.tick s.count) h.wf h.right;cases hh:s.halted with
 |true=>
  rw[rD (by rw[hh,aZ])];exact⟨h,u0,I,λe=>(by cases e),λ_ e=>(by rw[hh]at e;cases e),λ_=>I⟩
 |false=>
  rw[rE (by rw[h.right,hh];rfl) rfl rfl];rw[hh]at w4;obtain⟨s1,hs1⟩:=Uk (told s (d.tick s.count));rw[hs1]at w1 w2 w3 w4|-;unfold lF;have hpc:s1.pc.toNat<=4294967295:=by have:=w1.pc;unfold u32 at this;omega
  have p1:=pq h.u s1.space s1.pc.toNat 1;obtain⟨p2, -⟩:=eU n U s1.space s1.pc.toNat hpc 1;have p3:=qZ n U s1.space s1.pc.toNat hpc 1;obtain⟨⟨⟨pl,⟨tc,ta⟩⟩,U1⟩,hq⟩:=Uk (Sz n U s1.space s1.pc.toNat 1);rw[hq]at p1 p2 p3|-;dsimp only at p1 p2 p3|-;cases htc:(tc !=0)with
  |true=>
   rw[ae];exact⟨⟨Er (Ks w1) _ p3.1,w2,p1,t1,t3⟩,u0,t2,λe=>(by cases e),λ_ _=>⟨by show V9 .u64 (s1.count+1)=_;rw[w3],w4⟩,λe=>(by rw[hh]at e;cases e)⟩
  |false=>
   rw[ac];exact⟨⟨w1,w2,p1,t1,t3⟩,p2,t2,λ_=>⟨w3,w4.trans hh.symm,hh⟩,λe=>(by cases e),λe=>(by rw[hh]at e;cases e)⟩
structure Nl(n k:Nat)(s:St)(d:Un)(q:St×Uo×Un):Prop where
 g:Vp n q.1 q.2.1 q.2.2
 out:J q.2.2.out<=J d.out+k
 count:∃j:Nat,j<=k/\(1<=k->1<=j)/\q.1.count=V9 .u64 (s.count+(j:Int))
end
variable{from_:Int}{q:St×Uo×Un}
structure B1(n:Nat)(m from_:Int)(o0 i:Nat)(q:St×Uo×Un):Prop where
 g:Vp n q.1 q.2.1 q.2.2
 out:J q.2.2.out<=o0+8*i
 cnt:∃c:Nat,V9 .u64 (q.1.count - from_)=(c:Int)/\i<=c/\c<=8*i/\(c:Int)<(bif decide (0<m)then m else 0)+8
theorem NH{N:Uy}(h:M.data=N.data)(root va:Nat)(kind:Int)(Sy:Bool):(dw n M root va kind Sy).1=(dw n N root va kind Sy).1/\(dw n M root va kind Sy).2.data=(dw n N root va kind Sy).2.data:=by
 unfold dw;rw[h];cases UV kind==0 with
 |true=>exact⟨I,h⟩
 |false=>
  dsimp only[cond];cases ia n N.data root va with
  |none=>exact⟨I,h⟩
  |some x=>
   obtain⟨a,l⟩:=x;dsimp only;cases bits .and .u32 l (oL kind Sy) !=oL kind Sy with
   |true=>exact⟨I,h⟩
   |false=>
    refine⟨I,?_⟩;dsimp only[cond];cases i3 l kind !=l with
    |true=>exact AD h _ _ 4
    |false=>exact h
section
variable{n:Nat}{U V:Uo}{s:St}{d:Un}
theorem Gt(h:XS U V)(s:Sp)(va:Nat)(kind:Int):(SF n U s va kind).1=(SF n V s va kind).1/\XS (SF n U s va kind).2 (SF n V s va kind).2:=by
 obtain⟨w1,w2⟩:=NH (n:=n) h.d s.root va kind s.Sy;unfold SF;rw[h.t,w1];cases !s.SJ with
 |true=>exact⟨I,h⟩
 |false=>
  cases(pf V.t va kind s.Sy).2 with
  |true=>exact⟨I,h⟩
  |false=>
   cases(dw n V.m s.root va kind s.Sy).1.2.SB !=0 with
   |true=>exact⟨I,w2,I⟩
   |false=>exact⟨I,w2,I⟩
theorem Kg(h:XS U V)(s:Sp)(va:Nat)(kind:Int):(Sz n U s va kind).1=(Sz n V s va kind).1/\XS (Sz n U s va kind).2 (Sz n V s va kind).2:=by
 obtain⟨t1,t2⟩:=Gt (n:=n) h s va kind;unfold Sz;rw[t1];cases UV kind==0 with
 |true=>exact⟨I,h⟩
 |false=>
  dsimp only[cond];cases(SF n V s va kind).1.2.SB !=0 with
  |true=>exact⟨I,t2⟩
  |false=>
   dsimp only[cond];cases decide ((SF n V s va kind).1.1<((n*64:Nat):Int))||((kind !=1)&&iv (SF n V s va kind).1.1)with
   |true=>exact⟨t1,t2⟩
   |false=>exact⟨I,t2⟩
theorem MC(h:XS U V):(cF n s U d).s=(cF n s V d).s/\(cF n s U d).place=(cF n s V d).place/\(cF n s U d).runs=(cF n s V d).runs/\XS (cF n s U d).u (cF n s V d).u/\(cF n s U d).d=(cF n s V d).d:=by
 unfold cF;cases !s.right||s.halted with
 |true=>exact⟨I,I,I,h,I⟩
 |false=>
  dsimp only[cond];obtain⟨t,ht⟩:=Uk (told s (d.tick s.count));rw[ht];obtain⟨p1,p2⟩:=Kg (n:=n) h t.space t.pc.toNat 1;unfold lF;dsimp only;rw[p1];cases(Sz n V t.space t.pc.toNat 1).1.2.SB !=0 with
  |true=>exact⟨I,I,I,p2,I⟩
  |false=>exact⟨I,I,I,p2,I⟩
end
end
end Go.Ink
namespace Go.Ink
open List renaming length→J
open IntKind renaming wrap→V9
open Go.RowKit
theorem iB(w:Lw):jQ w w.Ti.2:=⟨Int.le_refl _,(ot 2 w.code w.r).1,Int.le_refl _,Int.le_of_eq (ot 2 w.code w.r).2.symm⟩
theorem Jg(w:Lw):jQ w w.SN:=⟨Int.le_refl _,Int.le_refl _,Int.le_max_left _ _,Int.le_max_left _ _⟩
theorem AK{op:Int}(hp:dy op=true)(w:Lw)(n nx:Int):jQ w (w.one op n nx):=by
 refine jQ.trans ?_ (Jg _);have hs:jQ w w.SH.2.SH.2:=(kj w).trans (kj w.SH.2);rcases qc hp with rfl|rfl|rfl|rfl|rfl|rfl|rfl|rfl|rfl|hr|hr|rfl|hr|rfl|rfl|rfl
 .exact Nd
 .exact Nd
 .exact Nd
 .exact Q6
 .exact Q6
 .exact XD
 .exact XD
 .exact Q6
 .exact⟨(iB w).nd,(iB w).nr,(iB w).hd,(iB w).hr⟩
 .refine YF ?_;exact XD
 .rw[qp (Or.inr hr)];subst hr;exact XD
 .exact Nd
 .have h5:op=33\/op=34\/op=35\/op=36\/op=37:=by omega
  rcases h5 with rfl|rfl|rfl|rfl|rfl<;>exact⟨(jQ.refl w).nd,(jQ.refl w).nr,(jQ.refl w).hd,(jQ.refl w).hr⟩
 .exact Nd
 .exact⟨(iB w).nd,(iB w).nr,(iB w).hd,(iB w).hr⟩
 exact Q6
variable{a:Nat}
variable{b:Nat}
section
variable{C l:List HI}{k:Nat}{R W:Li}{M:HM}{pl:Pl}
variable{n:Int}{into:Nat}
structure II.ok(x:II)(SE SG:Int)(n:Nat):Prop where
  imm:0<=x.imm/\x.imm<=4294967295
  op:(x.op=0)\/(x.op=1/\x.imm<SE)\/(x.op=2/\x.imm<SG)\/(x.op=3/\16<=x.imm/\x.imm<=23)\/(x.op=4/\((16<=x.imm/\x.imm<=23)\/x.imm=25))
  ab:x.op=3\/x.op=4->(0<=x.a/\x.a<n)/\(0<=x.b/\x.b<n)
theorem Uv.one{D Rr V:Li}{SE SG:Int}{n:Nat}{x:II}(h:Uv C k (rc SE SG pl n x++l) R W M)(hx:x.ok SE SG n)(hb:Ry D Rr SE SG R W)(hD:VO D)(hR:VO Rr)(hV:VO V)
    (hn:pl.has n) (hab:x.op=3\/x.op=4->(pl.has x.a/\Lo pl R W x.a (V.getD x.a.toNat 0))/\(pl.has x.b/\Lo pl R W x.b (V.getD x.b.toNat 0))):
    ∃k' R' W',Uv C k' l R' W' M/\Lo pl R' W' n (lw D Rr V x)/\Ry D Rr SE SG R' W'/\(∀j,j<7->(pl.inR n=true->j≠(pl.r n).toNat)->R'.getD j 0=R.getD j 0)/\(∀j,(pl.inR n=true\/j≠64+(pl.s n).toNat)->W'.getD j 0=W.getD j 0):=by
  obtain⟨rd,hrd,hrd2⟩:=mE hn (into:=9) O;have hrd:eJ pl n 9=(rd:Int):=hrd;have hrd10:rd<10:=by rcases hrd2 with⟨h1, -⟩|⟨h1, -⟩<;>omega
  have fin:∀(k1:Nat) (R1:Li) (v:Int),Uv C k1 (jh pl n (eJ pl n 9)++l) R1 W M->R1.getD rd 0=v->(0<=v/\v<=4294967295)->(∀j,j≠rd->(j<7\/13<=j)->R1.getD j 0=R.getD j 0)->
      ∃k' R' W',Uv C k' l R' W' M/\Lo pl R' W' n v/\Ry D Rr SE SG R' W'/\(∀j,j<7->(pl.inR n=true->j≠(pl.r n).toNat)->R'.getD j 0=R.getD j 0)/\(∀j,(pl.inR n=true\/j≠64+(pl.s n).toNat)->W'.getD j 0=W.getD j 0):=λk1 R1 v g hv hv2 hs=>by
    obtain⟨k2,W2,g1,g2,g3⟩:=Uv.S1 g hn hrd (by grind [hb.z]) hv hv2;have hw:∀j,j<64->W2.getD j 0=W.getD j 0:=λj hj=>g3 j (by
      omega)
    refine⟨k2,R1,W2,g1,g2,hb.mono (λj hj=>hs j O O) hw,λj hj hne=>?_,g3⟩
    grind
  have hap:∀m:List HI,Uv C k (m++(jh pl n (eJ pl n 9)++l)) R W M<->Uv C k ((m++jh pl n (eJ pl n 9))++l) R W M:=λm=>by grind
  have two:∀m:List HI,(x.op=3\/x.op=4)->Uv C k (j9 pl x.a 7++(j9 pl x.b 8++m)) R W M->∃(k1:Nat) (R1:Li) (ra rb a b:Nat),Uv C k1 m R1 W M/\eJ pl x.a 7=ra/\eJ pl x.b 8=rb/\ra<9/\rb<9/\R1.getD ra 0=(a:Int)/\R1.getD rb 0=(b:Int)/\
      V.getD x.a.toNat 0=(a:Int)/\V.getD x.b.toNat 0=(b:Int)/\a<4294967296/\b<4294967296/\kT [7,8] R R1:=λm ho g=>by
    obtain⟨⟨h1,h2⟩,h3,h4⟩:=hab ho;obtain⟨ra,e1,e2⟩:=mE h1 (into:=7) O;obtain⟨rb,e3,e4⟩:=mE h3 (into:=8) O;have e1:eJ pl x.a 7=(ra:Int):=e1;have e3:eJ pl x.b 8=(rb:Int):=e3;obtain⟨a,a1,a2⟩:=m5 hV x.a.toNat;obtain⟨b,b1,b2⟩:=m5 hV x.b.toNat;rw[a1]at h2;rw[b1]at h4;obtain⟨k1,R1,g1,g2,g3⟩:=Uv.get (into:=7) g h1 O e1 hb.z h2;have h4':Lo pl R1 W x.b b:=by
      refine⟨λhi=>?_,h4.2⟩;rcases h3 with⟨q1,q2⟩|⟨q1, -⟩
      . rw[g3 _ ?_]
        . exact h4.1 hi
        grind
      grind
    obtain⟨k2,R2,p1,p2,p3⟩:=Uv.get (into:=8) g1 h3 O e3 (by rw[g3 15 An,hb.z]) h4';refine⟨k2,R2,ra,rb,a,b,p1,e1,e3,?_,?_,?_,p2,a1,b1,a2,b2,g3.trans p3 Do⟩
    . omega
    . omega
    rw[p3 ra Do,g2]
  obtain⟨op,dst,xa,xb,imm⟩:=x;obtain⟨hi1,hi2⟩:=hx.imm;have hop:=hx.op;dsimp only at hop hi1 hi2 two hab;rcases hop with rfl|⟨rfl,h1⟩|⟨rfl,h1⟩|⟨rfl,h1⟩|⟨rfl,h1⟩
  . have g:Uv C k (⟨1,(rd:Int),0,0,imm⟩::(jh pl n (eJ pl n 9)++l)) R W M:=by rw[<-hrd];exact(hap [⟨1,eJ pl n 9,0,0,imm⟩]).2 h
    exact fin _ _ imm g.li (cY (by rw[h.rl];omega)) ⟨hi1,hi2⟩ (λj h1 _=>cJ (λe=>h1 e.symm))
  . have g:Uv C k (⟨14,(rd:Int),14,0,V9 .u32 (4+SE - 1 - imm)⟩::(jh pl n (eJ pl n 9)++l)) R W M:=by rw[<-hrd];exact(hap [_]).2 h
    obtain⟨n1,n2⟩:=hb.nd;have hd:=hb.d16;have g1:=Uv.ld (rd:=rd) (ra:=14) (p:=4+(J D - 1 - imm.toNat)) g (by rw[hb.bd,au,aS];omega) O;have hv:W.getD (4+(J D - 1 - imm.toNat)) 0=D.getD (J D - 1 - imm.toNat) 0:=hb.d _ O;rw[hv]at g1;exact fin _ _ _ g1 (cY (by rw[h.rl];omega)) (iI hD _) (λj h1 _=>cJ (λe=>h1 e.symm))
  . have g:Uv C k (⟨14,(rd:Int),13,0,V9 .u32 (20+SG - 1 - imm)⟩::(jh pl n (eJ pl n 9)++l)) R W M:=by rw[<-hrd];exact(hap [_]).2 h
    obtain⟨n1,n2⟩:=hb.nr;have hd:=hb.r16;have g1:=Uv.ld (rd:=rd) (ra:=13) (p:=20+(J Rr - 1 - imm.toNat)) g (by rw[hb.br,au,aS];omega) O;have hv:W.getD (20+(J Rr - 1 - imm.toNat)) 0=Rr.getD (J Rr - 1 - imm.toNat) 0:=hb.r _ O;rw[hv]at g1;exact fin _ _ _ g1 (cY (by rw[h.rl];omega)) (iI hR _) (λj h1 _=>cJ (λe=>h1 e.symm))
  . have g:Uv C k (j9 pl xa 7++(j9 pl xb 8++(xm imm (eJ pl n 9) (eJ pl xa 7) (eJ pl xb 8)++(jh pl n (eJ pl n 9)++l)))) R W M:=by
      have e:rc SE SG pl n ⟨3,dst,xa,xb,imm⟩++l=j9 pl xa 7++(j9 pl xb 8++(xm imm (eJ pl n 9) (eJ pl xa 7) (eJ pl xb 8)++(jh pl n (eJ pl n 9)++l))):=by
        show((j9 pl xa 7++(j9 pl xb 8++xm imm (eJ pl n 9) (eJ pl xa 7) (eJ pl xb 8)))++jh pl n (eJ pl n 9))++l=_;simp only[aq]
      rwa[e]at h
    obtain⟨k1,R1,ra,rb,a,b,g1,e1,e2,ha,hbb,ea,eb,va,vb,a2,b2,hs⟩:=two _ (Or.inl I) g;rw[e1,e2,hrd]at g1;obtain⟨k2,R2,p1,p2,p3⟩:=Uv.alu (rd:=rd) (Or.inl h1) g1 O ea eb a2 b2;obtain⟨q,q1,q2⟩:=tD (Or.inl h1) a2 b2;have hv:lw D Rr V ⟨3,dst,xa,xb,imm⟩=vM imm a b:=by
      show(gP imm (V.getD xa.toNat 0) (V.getD xb.toNat 0)).1=_;rw[va,vb];unfold vM;rw[show(imm==25)=false by simp;omega];rfl
    rw[hv];exact fin _ _ _ (by rw[hrd];exact p1) p2 O (λj h1 h2=>by rw[p3 j gW,hs j gW])
  have g:Uv C k (j9 pl xa 7++(j9 pl xb 8++(mF imm (eJ pl xa 7) (eJ pl xb 8)++(⟨2,eJ pl n 9,10,0,0⟩::(jh pl n (eJ pl n 9)++l))))) R W M:=by
    have e:rc SE SG pl n ⟨4,dst,xa,xb,imm⟩++l=j9 pl xa 7++(j9 pl xb 8++(mF imm (eJ pl xa 7) (eJ pl xb 8)++(⟨2,eJ pl n 9,10,0,0⟩::(jh pl n (eJ pl n 9)++l)))):=by
      show((j9 pl xa 7++(j9 pl xb 8++(mF imm (eJ pl xa 7) (eJ pl xb 8)++[⟨2,eJ pl n 9,10,0,0⟩])))++jh pl n (eJ pl n 9))++l=_;simp only[aq,aF,aJ]
    rwa[e]at h
  obtain⟨k1,R1,ra,rb,a,b,g1,e1,e2,ha,hbb,ea,eb,va,vb,a2,b2,hs⟩:=two _ (Or.inr I) g;rw[e1,e2]at g1;obtain⟨k2,R2,p1,p2,p3⟩:=Uv.flag h1 g1 ha hbb (by rw[hs 15 An,hb.z]) ea eb a2 b2;have hfl:=LP a2 b2 h1;have hv:lw D Rr V ⟨4,dst,xa,xb,imm⟩=(gP imm a b).2.1:=by
    show(gP imm (V.getD xa.toNat 0) (V.getD xb.toNat 0)).2.1=_;rw[va,vb]
  rw[hv];rw[hrd]at p1;have p4:=Uv.mov (rd:=rd) (ra:=10) p1;rw[p2]at p4;exact fin _ _ _ (by rw[hrd];exact p4) (cY (by rw[p1.rl];omega)) O (λj h1 h2=>by rw[cJ (λe=>h1 e.symm),p3 j gW,hs j gW])
end
end Go.Ink
