/- Lemmas. -/
import Derived.Test.YtgpahfcaecojgaaGreatDoorPai
set_option linter.all false
set_option maxRecDepth 100000
set_option maxHeartbeats 4000000
namespace Go.Ink
open Go.RowKit
section
variable {s:St} {op nn:Int}
theorem VR{R:Run}(hs:s.right=true)(hp:dB op=true)(ho:iy op nn=true)(hm:Dq s op nn=R)(ht:R.Wv=Tr.none)(hv:R.device=false)
  (h1:(ce op).1.1<=s.d.length) (h2:(ce op).2.1<=s.r.length) (h3:s.d.length+(ce op).1.2<=16+(ce op).1.1) (h4:s.r.length+(ce op).2.2<=16+(ce op).2.1):
  doN s op nn=⟨R.s,false,false,[]⟩:=by
 have hn:sY s (ce op)=0:=by
  unfold sY;rw[show decide ((s.d.length:Int)<((ce op).1.1:Int))=false from aF Wq1,show decide ((s.r.length:Int)<((ce op).2.1:Int))=false from aF Wq1,
   show decide (16<(s.d.length:Int) - ((ce op).1.1:Int)+((ce op).1.2:Int))=false from aF Wq1,show decide (16<(s.r.length:Int) - ((ce op).2.1:Int)+((ce op).2.2:Int))=false from aF Wq1]
  rfl
 have hc:=jc hp;have e1:vW op=false:=by unfold vW;rw[show decide (65<=op)=false from aF Wq1];rfl
 have e2:(op==66)=false:=by simp;omega
 have e3:(op==67)=false:=by simp;omega
 unfold doN gc;rw[hs,ho,hn,e1,e2,e3,hm];show VQ s R=_;unfold VQ;rw[ht,hv]
 rfl
theorem yQ(h:(16<=op/\op<=23)\/op=25)(R:Run):dI op nn R=none/\cH op nn R=(true,bif op !=25 then(R.pop.pop.wfl (jR op R.pop.top R.top).2.1).push [(jR op R.pop.top R.top).1]else R.pop.pop.wfl (jR op R.pop.top R.top).2.1):=by
 have h:op=16\/op=17\/op=18\/op=19\/op=20\/op=21\/op=22\/op=23\/op=25:=by omega
 rcases h with rfl|rfl|rfl|rfl|rfl|rfl|rfl|rfl|rfl<;>exact⟨rfl,rfl⟩
theorem Il(h:33<=op/\op<=37)(R:Run):dI op nn R=none/\cH op nn R=(true,bif(dw op R.s.flags).1 then R.wpc (jI R nn)else R):=by
 have h:op=33\/op=34\/op=35\/op=36\/op=37:=by omega
 rcases h with rfl|rfl|rfl|rfl|rfl<;>exact⟨rfl,rfl⟩
end
def dX(s:St)(op:Int):Int:=IntKind.u32.wrap (s.pc+IntKind.u32.wrap (cF op))
def sD(D R:Li)(w:Lw)(op nn nx f:Int):Int:=
 bif(dw w.branch f).1 then IntKind.u32.wrap (nx+ma nn)else bif w.target== -1 then(bif op==32||op==38 then IntKind.u32.wrap (nx+ma nn)else nx)else ez D R w.code w.target
structure GM(D R:Li)(f0:Int)(s:St)(op nn:Int)(w':Lw)(s':St):Prop where
 did:doN s op nn=⟨s',false,false,[]⟩
 li:LI D R w' s'.d s'.r
 fl:FL D R f0 w' s'.flags
 pc:s'.pc=sD D R w' op nn (dX s op) s'.flags
 tg:w'.target= -1\/II.in_ w'.target w'.code
 going:op<32->w'.target= -1/\w'.branch=0
 rest:s'=⟨s'.pc,s'.d,s'.r,s'.flags,s.Wf,s.Wn,s.ie,s.root,s.vec,s.epc,s.Wg,s.addr,s.Wu,s.eie,IntKind.u64.wrap (s.count+1),s.halted⟩
section
variable {D R:Li} {f0:Int} {s:St} {op nn:Int} {w w':Lw}
theorem uU{nx f:Int}(hb:w'.branch=0)(ht:w'.target= -1)(h:(op==32||op==38)=false):sD D R w' op nn nx f=nx:=by
 unfold sD;rw[hb,ht,h];rfl
theorem iV(td tr:Li)(hs:s.right=true)(hp:dB op=true)(ho:iy op nn=true)(hm:dI op nn (eW s op)=some (((eW s op).wd td).wr tr))
  (h1:(ce op).1.1<=s.d.length) (h2:(ce op).2.1<=s.r.length) (h3:s.d.length+(ce op).1.2<=16+(ce op).1.1) (h4:s.r.length+(ce op).2.2<=16+(ce op).2.1)
  (hl:LI D R w' td tr) (hf:FL D R f0 w' s.flags) (hb:w'.branch=0) (ht:w'.target= -1) (ho2:(op==32||op==38)=false):∃s',GM D R f0 s op nn w' s':=
 ⟨(((eW s op).wd td).wr tr).s,VR hs hp ho (by grind [Dq]) rfl rfl h1 h2 h3 h4,hl,hf,(uU hb ht ho2).symm,Or.inl ht,λ_=>⟨ht,hb⟩,rfl⟩
theorem Ns(w:Lw):w.d.Wi<=w.We.2.d.Wi:=by
 show w.d.Wi<=(fD 1 w.code w.d).2.2.Wi
 grind [fD]
variable{x:Int}
theorem oN{t l:Li}(h:t=l++[x]):t.length=l.length+1:=by rw[h];simp
theorem AU{td tr:Li}(h:LI D R w td tr)(hD:D.length<=100)(hn:w.We.2.We.2.d.Wi<=(D.length:Int)):
  ∃l x y,td=(l++[x])++[y]/\LI D R w.We.2.We.2 l tr/\II.in_ w.We.1 w.We.2.We.2.code/\ez D R w.We.2.We.2.code w.We.1=y/\
   II.in_ w.We.2.We.1 w.We.2.We.2.code/\ez D R w.We.2.We.2.code w.We.2.We.1=x/\∃e,w.We.2.We.2.code=w.code++e:=by
 obtain⟨l1,y,a1,a2,a3,a4,e1,a5⟩:=rV h hD (Int.le_trans (Ns w.We.2) hn)
 grind [rV,tf,gY]
theorem oc{R':Run}(hs:s.right=true)(hp:dB op=true)(ho:iy op nn=true)(hm:Dq s op nn=R')(ht:R'.Wv=Tr.none)(hv:R'.device=false)
  (h1:(ce op).1.1<=s.d.length) (h2:(ce op).2.1<=s.r.length) (h3:s.d.length+(ce op).1.2<=16+(ce op).1.1) (h4:s.r.length+(ce op).2.2<=16+(ce op).2.1)
  (hl:LI D R w' R'.s.d R'.s.r) (hf:FL D R f0 w' R'.s.flags) (hpc:R'.s.pc=sD D R w' op nn (dX s op) R'.s.flags) (htg:w'.target= -1\/II.in_ w'.target w'.code) (hgo:op<32->w'.target= -1/\w'.branch=0)
  (hr:R'.s=⟨R'.s.pc,R'.s.d,R'.s.r,R'.s.flags,s.Wf,s.Wn,s.ie,s.root,s.vec,s.epc,s.Wg,s.addr,s.Wu,s.eie,IntKind.u64.wrap (s.count+1),s.halted⟩):∃s',GM D R f0 s op nn w' s':=
 ⟨R'.s,VR hs hp ho hm ht hv h1 h2 h3 h4,hl,hf,hpc,htg,hgo,hr⟩
theorem qP(h:(16<=op/\op<=23)\/op=25)(w:Lw)(n nx:Int):w.go op n nx=w.We.2.We.2.reckon op w.We.2.We.1 w.We.1:=by
 have h:op=16\/op=17\/op=18\/op=19\/op=20\/op=21\/op=22\/op=23\/op=25:=by omega
 rcases h with rfl|rfl|rfl|rfl|rfl|rfl|rfl|rfl|rfl<;>rfl
theorem lj(h:16<=op/\op<=23):ce op=((2,1),(0,0)):=by
 have h:op=16\/op=17\/op=18\/op=19\/op=20\/op=21\/op=22\/op=23:=by omega
 rcases h with rfl|rfl|rfl|rfl|rfl|rfl|rfl|rfl<;>rfl
theorem vP(h:(16<=op/\op<=23)\/op=25){l:Li}{x y:Int}(hd:s.d=(l++[x])++[y]):
  Dq s op nn=bif op !=25 then((eW s op).wd (l++[(jR op x y).1])).wfl (jR op x y).2.1 else((eW s op).wd l).wfl (jR op x y).2.1:=by
 have e0:eW s op=(eW s op).wd ((l++[x])++[y]):=congrArg (λt=>(eW s op).wd t) hd;unfold Dq;rw[(yQ h (eW s op)).1];show(bif(cH op nn (eW s op)).1 then(cH op nn (eW s op)).2 else _)=_;rw[(yQ h (eW s op)).2];have e1:(eW s op).top=y:=(congrArg Run.top e0).trans (Run.top_wd _ _ _);have e2:(eW s op).pop=(eW s op).wd (l++[x]):=(congrArg Run.pop e0).trans (Run.pop_wd _ _ _);have e3:(eW s op).pop.top=x:=(congrArg Run.top e2).trans (Run.top_wd _ _ _);have e4:(eW s op).pop.pop=(eW s op).wd l:=(congrArg Run.pop e2).trans (Run.pop_wd _ _ _);rw[e1,e3,e4]
 rfl
theorem IH{c:List II}{a b y:Int}(k6:ez D R c a=x)(k4:ez D R c b=y):ez D R (c++[⟨4,c.length,a,b,op⟩]) c.length=(jR op x y).2.1:=by
 rw[ky,<-k6,<-k4];rfl
theorem alu_new{c:List II}{a b y:Int}(k6:ez D R c a=x)(k4:ez D R c b=y):ez D R (c++[⟨3,c.length,a,b,op⟩]) c.length=(jR op x y).1:=by
 rw[ky,<-k6,<-k4];rfl
theorem jump_no(h:(16<=op/\op<=23)\/op=25):(op==32||op==38)=false:=by
 grind
theorem one_ok(hp:dB op=true)(ho:iy op nn=true)(hs:s.right=true)(h:LI D R w s.d s.r)(hf:FL D R f0 w s.flags)(hD:D.length<=16)(hR:R.length<=16)(ht:w.target= -1)(hb:w.branch=0)
  (n1:(w.one op nn (dX s op)).d.Wi<=(D.length:Int)) (n2:(w.one op nn (dX s op)).r.Wi<=(R.length:Int))
  (g1:(D.length:Int)+(w.one op nn (dX s op)).d.high<=16) (g2:(R.length:Int)+(w.one op nn (dX s op)).r.high<=16):∃s',GM D R f0 s op nn (w.one op nn (dX s op)) s':=by
 obtain⟨q1,q2, -⟩:=St.fits hs;obtain⟨nx,hnx⟩:=Zgn (dX s op);rcases qx hp with rfl|rfl|rfl|rfl|rfl|rfl|rfl|rfl|rfl|hr|hr|rfl|hr|rfl|rfl|rfl
 .refine iV s.d s.r hs hp ho rfl (ap _) (ap _) q1 q2 h.Wl hf hb ht rfl
 .have h6:LI D R (w.one 1 nn nx) (s.d++[nn]) s.r:=by
   exact Wq278
  have h8:=h6.Xx;rw[hnx]at g1;refine iV (s.d++[nn]) s.r hs hp ho rfl (ap _) (ap _) (show s.d.length+1<=16+0 from ?_) q2 (hnx▸h6) (hf.app (w':=w.one 1 nn (dX s 1)) rfl rfl) hb ht rfl;have h9:(((s.d++[nn]).length:Nat):Int)<=_:=h8;have h10:=Int.le_trans h9 g1
  grind
 .have h6:LI D R (w.one 2 nn nx) (s.d++[nn]) s.r:=by
   exact Wq278
  have h8:=h6.Xx;rw[hnx]at g1;refine iV (s.d++[nn]) s.r hs hp ho rfl (ap _) (ap _) (show s.d.length+1<=16+0 from ?_) q2 (hnx▸h6) (hf.app (w':=w.one 2 nn (dX s 2)) rfl rfl) hb ht rfl;have h9:(((s.d++[nn]).length:Nat):Int)<=_:=h8;have h10:=Int.le_trans h9 g1
  grind
 .obtain⟨l,x,k1,k2,k3,k4,e,k5⟩:=rV h Wq1 n1;have h6:LI D R (w.one 3 nn nx) (l++[x,x]) s.r:=by
   have h7:=(k2.W7 [w.We.1,w.We.1] bY).Wl;rw[show[w.We.1,w.We.1].map (ez D R w.We.2.code)=[x,x] by simp[k4]]at h7;exact h7
  have h8:(((l++[x,x]:Li).length:Nat):Int)<=_:=h6.Xx;rw[hnx]at g1;have h10:=Int.le_trans h8 g1;have h11:=oN k1;simp at h10;refine iV (l++[x,x]) s.r hs hp ho ((congrArg (λt=>dI 3 nn ((eW s 3).wd t)) k1).trans (pv nn (eW s 3) l x)) (show 1<=s.d.length by omega) (ap _) (show s.d.length+2<=16+1 by omega) q2 (hnx▸h6) (hf.app (w':=w.one 3 nn (dX s 3)) k5 rfl) hb ht rfl
 .obtain⟨l,x,k1,k2,k3,k4,e,k5⟩:=rV h Wq1 n1;have h6:LI D R (w.one 4 nn nx) (l) s.r:=by
   have h7:=k2.Wl;exact h7
  have h8:(((l:Li).length:Nat):Int)<=_:=h6.Xx;rw[hnx]at g1;have h10:=Int.le_trans h8 g1;have h11:=oN k1;refine iV (l) s.r hs hp ho ((congrArg (λt=>dI 4 nn ((eW s 4).wd t)) k1).trans (nz nn (eW s 4) l x)) (show 1<=s.d.length by omega) (ap _) (show s.d.length+0<=16+1 by omega) q2 (hnx▸h6) (hf.app (w':=w.one 4 nn (dX s 4)) k5 rfl) hb ht rfl
 .obtain⟨l,x,y,k1,k2,k3,k4,k5,k6,e,k7⟩:=AU h Wq1 n1;have h6:LI D R (w.one 5 nn nx) (l++[y,x]) s.r:=by
   have h7:=(k2.W7 [w.We.1,w.We.2.We.1] bY).Wl;rw[show[w.We.1,w.We.2.We.1].map (ez D R w.We.2.We.2.code)=[y,x] by grind]at h7;exact h7
  have h8:(((l++[y,x]:Li).length:Nat):Int)<=_:=h6.Xx;rw[hnx]at g1;have h10:=Int.le_trans h8 g1;have h11:s.d.length=l.length+2:=by rw[k1];simp
  simp at h10;refine iV (l++[y,x]) s.r hs hp ho ((congrArg (λt=>dI 5 nn ((eW s 5).wd t)) k1).trans (nw nn (eW s 5) l x y)) (show 2<=s.d.length by omega) (ap _) (show s.d.length+2<=16+2 by omega) q2 (hnx▸h6) (hf.app (w':=w.one 5 nn (dX s 5)) k7 rfl) hb ht rfl
 .obtain⟨l,x,y,k1,k2,k3,k4,k5,k6,e,k7⟩:=AU h Wq1 n1;have h6:LI D R (w.one 6 nn nx) (l++[x,y,x]) s.r:=by
   have h7:=(k2.W7 [w.We.2.We.1,w.We.1,w.We.2.We.1] bY).Wl;rw[show[w.We.2.We.1,w.We.1,w.We.2.We.1].map (ez D R w.We.2.We.2.code)=[x,y,x] by grind]at h7;exact h7
  have h8:(((l++[x,y,x]:Li).length:Nat):Int)<=_:=h6.Xx;rw[hnx]at g1;have h10:=Int.le_trans h8 g1;have h11:s.d.length=l.length+2:=by rw[k1];simp
  simp at h10;refine iV (l++[x,y,x]) s.r hs hp ho ((congrArg (λt=>dI 6 nn ((eW s 6).wd t)) k1).trans (ny nn (eW s 6) l x y)) (show 2<=s.d.length by omega) (ap _) (show s.d.length+3<=16+2 by omega) q2 (hnx▸h6) (hf.app (w':=w.one 6 nn (dX s 6)) k7 rfl) hb ht rfl
 .obtain⟨l,x,k1,k2,k3,k4,e,k5⟩:=rV h Wq1 n1;have h6:LI D R (w.one 7 nn nx) l (s.r++[x]):=by
   have h7:=(k2.Xu [w.We.1] bY).Wl;rw[show[w.We.1].map (ez D R w.We.2.code)=[x] by simp[k4]]at h7;exact h7
  have h8:(((s.r++[x]:Li).length:Nat):Int)<=_:=h6.lenR;rw[hnx]at g2;have h10:=Int.le_trans h8 g2;have h11:=oN k1;simp at h10;refine iV l (s.r++[x]) hs hp ho ((congrArg (λt=>dI 7 nn ((eW s 7).wd t)) k1).trans (pu nn (eW s 7) l x)) (show 1<=s.d.length by omega) (ap _) (show s.d.length+0<=16+1 by omega) (show s.r.length+1<=16+0 by omega) (hnx▸h6) (hf.app (w':=w.one 7 nn (dX s 7)) k5 rfl) hb ht rfl
 .obtain⟨l,x,k1,k2,k3,k4,e,k5⟩:=Nr h Wq1 n2;have h6:LI D R (w.one 8 nn nx) (s.d++[x]) l:=by
   have h7:=(k2.W7 [w.WN.1] bY).Wl;rw[show[w.WN.1].map (ez D R w.WN.2.code)=[x] by simp[k4]]at h7;exact h7
  have h8:(((s.d++[x]:Li).length:Nat):Int)<=_:=h6.Xx;rw[hnx]at g1;have h10:=Int.le_trans h8 g1;have h11:=oN k1;simp at h10;refine iV (s.d++[x]) l hs hp ho ((congrArg (λt=>dI 8 nn ((eW s 8).wr t)) k1).trans (mn nn (eW s 8) l x)) (ap _) (show 1<=s.r.length by omega) (show s.d.length+1<=16+0 by omega) (show s.r.length+0<=16+1 by omega) (hnx▸h6) (hf.app (w':=w.one 8 nn (dX s 8)) k5 rfl) hb ht rfl
 .have hr2:(16<=op/\op<=23)\/op=25:=Or.inl hr;have e25:(op !=25)=true:=by simp;omega
  have ew:w.one op nn (dX s op)=(((((w.We.2.We.2.add 4 w.We.2.We.1 w.We.1 op).wfl w.We.2.We.2.here).add 3 w.We.2.We.1 w.We.1 op).W7 [((w.We.2.We.2.add 4 w.We.2.We.1 w.We.1 op).wfl w.We.2.We.2.here).here])).Wl:=by
   refine(congrArg Lw.Wl (qP hr2 w nn _)).trans (congrArg Lw.Wl ?_);unfold Lw.reckon;rw[e25]
   rfl
  rw[ew]at n1 n2 g1 g2|-;obtain⟨l,x,y,k1,k2,k3,k4,k5,k6,e,k7⟩:=AU h Wq1 n1;have h6:=(((k2.add 4 w.We.2.We.1 w.We.1 op).wfl w.We.2.We.2.here).add 3 w.We.2.We.1 w.We.1 op).W7 [((w.We.2.We.2.add 4 w.We.2.We.1 w.We.1 op).wfl w.We.2.We.2.here).here] (λn hn=>by
   rw[aC.1 hn];exact pj _ _)
  have hv:=alu_new (D:=D) (R:=R) (op:=op) (c:=w.We.2.We.2.code++[⟨4,w.We.2.We.2.code.length,w.We.2.We.1,w.We.1,op⟩]) ((gY k5).trans k6) ((gY k3).trans k4);rw[List.map_cons,List.map_nil]at h6;have h7:=Eq.mp (congrArg (λv=>LI D R ((((w.We.2.We.2.add 4 w.We.2.We.1 w.We.1 op).wfl w.We.2.We.2.here).add 3 w.We.2.We.1 w.We.1 op).W7 [((w.We.2.We.2.add 4 w.We.2.We.1 w.We.1 op).wfl w.We.2.We.2.here).here]) (l++[v]) s.r) hv) h6;have h8:=h7.Wl.Xx;have h10:=Int.le_trans h8 g1;have h11:s.d.length=l.length+2:=by rw[k1];simp
  simp at h10;refine oc (R':=((eW s op).wd (l++[(jR op x y).1])).wfl (jR op x y).2.1) hs hp ho (by grind [vP]) rfl rfl ?_ ?_ ?_ ?_ h7.Wl ?_ ?_ (Or.inl ht) (λ_=>⟨ht,hb⟩) rfl
  .grind [lj]
  .grind [lj]
  .grind [lj]
  .grind [lj]
  .exact Or.inr ⟨tf _ (pj _ _),((gY (pj _ _)).trans (IH k6 k4)).symm⟩
  refine Eq.symm (uU ?_ ?_ (jump_no hr2))
  .exact hb
  exact ht
 .subst hr;have ew:w.one 25 nn (dX s 25)=((w.We.2.We.2.add 4 w.We.2.We.1 w.We.1 25).wfl w.We.2.We.2.here).Wl:=rfl;rw[ew]at n1 n2 g1 g2|-;obtain⟨l,x,y,k1,k2,k3,k4,k5,k6,e,k7⟩:=AU h Wq1 n1;have h7:=((k2.add 4 w.We.2.We.1 w.We.1 25).wfl w.We.2.We.2.here).Wl;have h11:s.d.length=l.length+2:=by rw[k1];simp
  refine oc (R':=((eW s 25).wd l).wfl (jR 25 x y).2.1) hs hp ho (by rw[vP (Or.inr rfl) k1];rfl) rfl rfl (show 2<=s.d.length by omega) (ap _) (show s.d.length+0<=16+2 by omega) q2 h7 ?_ ?_ (Or.inl ht) (λ_=>⟨ht,hb⟩) rfl
  .exact Or.inr ⟨pj _ _,(IH k6 k4).symm⟩
  refine Eq.symm (uU ?_ ?_ rfl)
  .exact hb
  exact ht
 .refine oc (R':=(eW s 32).wpc (jI (eW s 32) nn)) hs hp ho rfl rfl rfl (ap _) (ap _) q1 q2 h.Wl hf ?_ (Or.inl ht) (λh=>absurd h bX) rfl;show _=bif(dw w.branch s.flags).1 then _ else bif w.target== -1 then _ else _
  rw[hb,ht];rfl
 .have h5:op=33\/op=34\/op=35\/op=36\/op=37:=by omega
  have eg:w.one op nn (dX s op)=(w.wbr op).Wl:=by rcases h5 with rfl|rfl|rfl|rfl|rfl<;>rfl
  have eq:ce op=((0,0),(0,0)):=by rcases h5 with rfl|rfl|rfl|rfl|rfl<;>rfl
  have ej:(op==32||op==38)=false:=by rcases h5 with rfl|rfl|rfl|rfl|rfl<;>rfl
  rw[eg]at n1 n2 g1 g2|-;have em:Dq s op nn=bif(dw op s.flags).1 then(eW s op).wpc (jI (eW s op) nn)else eW s op:=by
   unfold Dq;rw[(Il hr _).1];show(bif(cH op nn (eW s op)).1 then(cH op nn (eW s op)).2 else _)=_;rw[(Il hr _).2];rfl
  cases hh:(dw op s.flags).1 with
  |true=>
   rw[hh]at em;refine oc (R':=(eW s op).wpc (jI (eW s op) nn)) hs hp ho em rfl rfl bY bY bY bY (h.wbr op).Wl hf ?_ (Or.inl ht) (λh=>absurd h Wq1) rfl;show _=bif(dw op s.flags).1 then _ else _
   rw[hh];rfl
  |false=>
   rw[hh]at em;refine oc (R':=eW s op) hs hp ho em rfl rfl bY bY bY bY (h.wbr op).Wl hf ?_ (Or.inl ht) (λh=>absurd h Wq1) rfl;show _=bif(dw op s.flags).1 then _ else bif w.target== -1 then(bif op==32||op==38 then _ else _)else _
   rw[hh,ht,ej];rfl
 .have ew:w.one 38 nn (dX s 38)=((w.add 0 0 0 (dX s 38)).Xu [w.here]).Wl:=rfl;rw[ew]at n1 n2 g1 g2|-;have h7:=((h.add 0 0 0 (dX s 38)).Xu [w.here] (λn hn=>by rw[aC.1 hn];exact pj _ _)).Wl;rw[List.map_cons,List.map_nil,show ez D R (w.add 0 0 0 (dX s 38)).code w.here=dX s 38 from ky _ _]at h7;have h10:=Int.le_trans h7.lenR g2;simp at h10;refine oc (R':=((eW s 38).Xz (dX s 38)).wpc (jI (eW s 38) nn)) hs hp ho rfl rfl rfl (ap _) (ap _) q1 (show s.r.length+1<=16+0 by omega) h7 (hf.app (w':=((w.add 0 0 0 (dX s 38)).Xu [w.here]).Wl) rfl rfl) ?_ (Or.inl ht) (λh=>absurd h bX) rfl;show _=bif(dw w.branch s.flags).1 then _ else bif w.target== -1 then _ else _
  rw[hb,ht];rfl
 .have ew:w.one 39 nn (dX s 39)=(w.WN.2.wtg w.WN.1).Wl:=rfl;rw[ew]at n1 n2 g1 g2|-;obtain⟨l,x,k1,k2,k3,k4,e,k5⟩:=Nr h Wq1 n2;have h11:=oN k1;have e0:eW s 39=(eW s 39).wr (l++[x]):=congrArg (λt=>(eW s 39).wr t) k1;have e1:(eW s 39).topR=x:=(congrArg Run.topR e0).trans (Run.topR_wr _ _ _);have e2:(eW s 39).WN=(eW s 39).wr l:=(congrArg Run.WN e0).trans (Run.popR_wr _ _ _);have em:Dq s 39 nn=((eW s 39).wr l).wpc x:=by
   have:Dq s 39 nn=(eW s 39).WN.wpc (eW s 39).topR:=rfl;rw[this,e1,e2]
  have e3:(w.WN.1== -1)=false:=by have:=k3.1;simp;omega
  refine oc (R':=((eW s 39).wr l).wpc x) hs hp ho em rfl rfl (ap _) (show 1<=s.r.length by omega) q1 (show s.r.length+0<=16+1 by omega) (k2.wtg _).Wl (hf.app (w':=(w.WN.2.wtg w.WN.1).Wl) k5 rfl) ?_ (Or.inr k3) (λh=>absurd h bX) rfl;show x=bif(dw w.branch s.flags).1 then _ else bif w.WN.1== -1 then _ else ez D R w.WN.2.code w.WN.1
  rw[hb,e3,k4];rfl
 have ew:w.one 40 nn (dX s 40)=(w.We.2.wtg w.We.1).Wl:=rfl;rw[ew]at n1 n2 g1 g2|-;obtain⟨l,x,k1,k2,k3,k4,e,k5⟩:=rV h Wq1 n1;have h11:=oN k1;have e0:eW s 40=(eW s 40).wd (l++[x]):=congrArg (λt=>(eW s 40).wd t) k1;have e1:(eW s 40).top=x:=(congrArg Run.top e0).trans (Run.top_wd _ _ _);have e2:(eW s 40).pop=(eW s 40).wd l:=(congrArg Run.pop e0).trans (Run.pop_wd _ _ _);have em:Dq s 40 nn=((eW s 40).wd l).wpc x:=by
  have:Dq s 40 nn=(eW s 40).pop.wpc (eW s 40).top:=rfl;rw[this,e1,e2]
 have e3:(w.We.1== -1)=false:=by have:=k3.1;simp;omega
 refine oc (R':=((eW s 40).wd l).wpc x) hs hp ho em rfl rfl (show 1<=s.d.length by omega) (ap _) (show s.d.length+0<=16+1 by omega) q2 (k2.wtg _).Wl (hf.app (w':=(w.We.2.wtg w.We.1).Wl) k5 rfl) ?_ (Or.inr k3) (λh=>absurd h bX) rfl;show x=bif(dw w.branch s.flags).1 then _ else bif w.We.1== -1 then _ else ez D R w.We.2.code w.We.1
 rw[hb,e3,k4];rfl
end
structure jV(w w':Lw):Prop where
 nd:w.d.Wi<=w'.d.Wi
 nr:w.r.Wi<=w'.r.Wi
 hd:w.d.high<=w'.d.high
 hr:w.r.high<=w'.r.high
theorem jV.trans{a b c:Lw}(h:jV a b)(k:jV b c):jV a c:=⟨Int.le_trans h.nd k.nd,Int.le_trans h.nr k.nr,Int.le_trans h.hd k.hd,Int.le_trans h.hr k.hr⟩
theorem jV.refl(w:Lw):jV w w:=⟨Int.le_refl _,Int.le_refl _,Int.le_refl _,Int.le_refl _⟩
theorem oI(k:Int)(c:List II)(s:Sd):s.Wi<=(fD k c s).2.2.Wi/\(fD k c s).2.2.high=s.high:=by
 grind [fD]
theorem kq(w:Lw):jV w w.We.2:=⟨(oI 1 w.code w.d).1,Int.le_refl _,Int.le_of_eq (oI 1 w.code w.d).2.symm,Int.le_refl _⟩
theorem iE(w:Lw):jV w w.WN.2:=⟨Int.le_refl _,(oI 2 w.code w.r).1,Int.le_refl _,Int.le_of_eq (oI 2 w.code w.r).2.symm⟩
theorem Mx(w:Lw):jV w w.Wl:=⟨Int.le_refl _,Int.le_refl _,Int.le_max_left _ _,Int.le_max_left _ _⟩
theorem Df{op:Int}(hp:dB op=true)(w:Lw)(n nx:Int):jV w (w.one op n nx):=by
 refine jV.trans ?_ (Mx _);have hs:jV w w.We.2.We.2:=(kq w).trans (kq w.We.2);rcases qx hp with rfl|rfl|rfl|rfl|rfl|rfl|rfl|rfl|rfl|hr|hr|rfl|hr|rfl|rfl|rfl
 .exact Qy
 .exact Qy
 .exact Qy
 .exact UP
 .exact UP
 .exact⟨(hs).nd,(hs).nr,(hs).hd,(hs).hr⟩
 .exact⟨(hs).nd,(hs).nr,(hs).hd,(hs).hr⟩
 .exact UP
 .exact⟨(iE w).nd,(iE w).nr,(iE w).hd,(iE w).hr⟩
 .refine Wq504 ?_;exact⟨(hs).nd,(hs).nr,(hs).hd,(hs).hr⟩
 .rw[qP (Or.inr hr)];subst hr;exact⟨(hs).nd,(hs).nr,(hs).hd,(hs).hr⟩
 .exact Qy
 .have h5:op=33\/op=34\/op=35\/op=36\/op=37:=by omega
  rcases h5 with rfl|rfl|rfl|rfl|rfl<;>exact⟨(jV.refl w).nd,(jV.refl w).nr,(jV.refl w).hd,(jV.refl w).hr⟩
 .exact Qy
 .exact⟨(iE w).nd,(iE w).nr,(iE w).hd,(iE w).hr⟩
 exact UP
variable{a:Nat}
theorem FC(ha:a<18446744073709551616):(BitVec.ofInt IntKind.u64.bits (a:Int)).toNat=a:=by rw[BitVec.toNat_ofInt];show((a:Int)%((18446744073709551616:Nat):Int)).toNat=a;omega
theorem FD(ha:a<4294967296):(BitVec.ofInt IntKind.u32.bits (a:Int)).toNat=a:=by rw[BitVec.toNat_ofInt];show((a:Int)%((4294967296:Nat):Int)).toNat=a;omega
variable{b:Nat}
theorem Qa(ha:a<18446744073709551616)(hb:b<18446744073709551616):bits .and .u64 (a:Int) (b:Int)=((a&&&b:Nat):Int):=by
  grind [bits,IntKind.wrap_u64,FC,Nat.and_le_left,BitVec.toNat_and]
theorem or64(ha:a<18446744073709551616)(hb:b<18446744073709551616):bits .or .u64 (a:Int) (b:Int)=((a|||b:Nat):Int):=by
  have h3:a|||b<2^64:=Nat.or_lt_two_pow ha hb
  grind [bits,IntKind.wrap_u64,FC]
theorem Jv(ha:a<18446744073709551616)(hb:b<18446744073709551616):bits .xor .u64 (a:Int) (b:Int)=((a^^^b:Nat):Int):=by
  have h3:a^^^b<2^64:=Nat.xor_lt_two_pow ha hb
  grind [bits,IntKind.wrap_u64,FC]
theorem Qb(ha:a<4294967296)(hb:b<4294967296):bits .and .u32 (a:Int) (b:Int)=((a&&&b:Nat):Int):=by
  grind [bits,IntKind.wrap_u32,FD,Nat.and_le_left,BitVec.toNat_and]
theorem or32(ha:a<4294967296)(hb:b<4294967296):bits .or .u32 (a:Int) (b:Int)=((a|||b:Nat):Int):=by
  have h3:a|||b<2^32:=Nat.or_lt_two_pow ha hb
  grind [bits,IntKind.wrap_u32,FD]
theorem Jw(ha:a<4294967296)(hb:b<4294967296):bits .xor .u32 (a:Int) (b:Int)=((a^^^b:Nat):Int):=by
  have h3:a^^^b<2^32:=Nat.xor_lt_two_pow ha hb
  grind [bits,IntKind.wrap_u32,FD]
theorem low64(z:Int):bits .and .u64 (IntKind.u64.wrap z) 4294967295=IntKind.u32.wrap z:=by
  obtain⟨n,hn⟩:∃n:Nat,IntKind.u64.wrap z=n:=ao (by rw[aU];omega);have h1:n<18446744073709551616:=by rw[aU]at hn;omega
  rw[hn,show(4294967295:Int)=((4294967295:Nat):Int)from rfl,Qa h1 bX,show(4294967295:Nat)=2^32 - 1 from rfl,Nat.and_two_pow_sub_one_eq_mod]
  grind [IntKind.wrap_u64,IntKind.wrap_u32]
theorem iM(ha:a<4294967296)(hb:b<4294967296):a^^^b<4294967296:=Nat.xor_lt_two_pow (n:=32) ha hb
theorem uQ(ha:a<4294967296):a&&&b<4294967296:=Nat.lt_of_le_of_lt Nat.and_le_left ha
theorem top32(ha:a<4294967296):(bits .and .u32 (a:Int) 2147483648 !=0)=decide (2147483648<=a):=by
  have h1:=Qb ha (show 2147483648<4294967296 by decide);rw[show((2147483648:Nat):Int)=2147483648 from rfl]at h1;rw[h1];have h2:a&&&2147483648=if 2147483648<=a then 2147483648 else 0:=by
    apply Nat.eq_of_testBit_eq;intro i;rw[show(2147483648:Nat)=2^31 from rfl,Nat.testBit_and,Nat.testBit_two_pow];by_cases e:31=i
    . grind
    rw[aF e,Bool.and_false];split
    . rw[Nat.testBit_two_pow,aF e]
    grind
  grind
theorem shr31(ha:a<4294967296):(a:Int).fdiv (2^(min (Int.toNat 31) IntKind.u64.bits))=b2i (decide (2147483648<=a)):=by
  show(a:Int).fdiv 2147483648=_;by_cases h:2147483648<=a
  . rw[aE h];show(a:Int).fdiv 2147483648=1;grind
  rw[aF h];show(a:Int).fdiv 2147483648=0;grind
structure HI where
  op:Int
  rd:Int
  ra:Int
  rb:Int
  imm:Int
def HI.zero:HI:=⟨0,0,0,0,0⟩
structure HM where
  WJ:List Int
  words:List Int
  pc:Int
def kH(op a b:Int):Int:=
  bif op==2 then a else bif op==3 then IntKind.u64.wrap (a+b)else bif op==4 then IntKind.u64.wrap (a - b)else bif op==5 then bits .and .u64 a b else bif op==6 then bits .or .u64 a b else bif op==7 then bits .xor .u64 a b else
  bif op==8 then IntKind.u64.wrap (a*2^(min b.toNat IntKind.u64.bits))else bif op==9 then a.fdiv (2^(min b.toNat IntKind.u64.bits))else bif op==10 then IntKind.u64.wrap (a*b)else
  bif op==11 then(bif b==0 then 0 else IntKind.u64.wrap (a.tdiv b))else bif op==12 then b2i (decide (a<b))else b2i (a==b)
abbrev rg(R:Li)(k:Int):Int:=R.getD k.toNat 0
def qK(R:Li)(i:HI):Int:=IntKind.u64.wrap (rg R i.ra+i.imm)
def hdo(i:HI)(m:HM):Int×HM:=
  bif i.op==0 then(0,⟨m.WJ,m.words,m.pc+1⟩)else
  bif i.op==1 then(0,⟨m.WJ.set i.rd.toNat i.imm,m.words,m.pc+1⟩)else
  bif i.op==14||i.op==15 then
    (bif decide ((m.words.length:Int)<=qK m.WJ i)then(4,m)else
     bif i.op==14 then(0,⟨m.WJ.set i.rd.toNat (m.words.getD (qK m.WJ i).toNat 0),m.words,m.pc+1⟩)
     else(0,⟨m.WJ,m.words.set (qK m.WJ i).toNat (IntKind.u32.wrap (rg m.WJ i.rb)),m.pc+1⟩))else
  bif i.op==16||i.op==17 then(0,⟨m.WJ,m.words,bif(rg m.WJ i.ra==0)==(i.op==16)then i.imm else m.pc+1⟩)else
  bif i.op==18 then(0,⟨m.WJ,m.words,i.imm⟩)else
  bif i.op==19 then(1,m)else(0,⟨m.WJ.set i.rd.toNat (kH i.op (rg m.WJ i.ra) (rg m.WJ i.rb)),m.words,m.pc+1⟩)
def Wr(C:List HI)(m:HM):Int×HM:=
  bif decide (m.pc<0)||decide ((C.length:Int)<=m.pc)then(2,m)else hdo (C.getD m.pc.toNat HI.zero) m
def j0(C:List HI):Nat->HM->(Int×Int)×HM
  |0,m=>((5,0),m)
  |f+1,m=>bif(Wr C m).1==0 then j0 C f (Wr C m).2 else bif(Wr C m).1==1 then((1,(C.getD (Wr C m).2.pc.toNat HI.zero).imm),(Wr C m).2)else(((Wr C m).1,0),(Wr C m).2)
structure HGo(C:List HI)(k:Nat)(l:List HI)(R W:Li)(M:HM):Prop where
  at_:C.drop k=l
  rl:R.length=16
  wl:W.length=256
  ends:∃f,j0 C f ⟨R,W,(k:Int)⟩=((1,1),M)
section
variable {C l:List HI} {k:Nat} {R W:Li} {M:HM} {i:HI}
theorem HGo.code(h:HGo C k (i::l) R W M):k<C.length/\C.getD k HI.zero=i/\C.drop (k+1)=l:=by
  grind [h.at_,List.drop_eq_nil_of_le,List.drop_eq_getElem_cons,List.getElem?_eq_getElem]
theorem HGo.Wr(h:HGo C k (i::l) R W M):Wr C ⟨R,W,(k:Int)⟩=hdo i ⟨R,W,(k:Int)⟩:=by
  grind [h.code,Ink.Wr,hdo,HI.zero]
variable{j:Nat}{l':List HI}
theorem HGo.on{R' W':Li}(h:HGo C k (i::l) R W M)(hd:hdo i ⟨R,W,(k:Int)⟩=(0,⟨R',W',(j:Int)⟩))(hr:R'.length=16)(hw:W'.length=256)(hl:C.drop j=l'):HGo C j l' R' W' M:=by
  refine⟨hl,hr,hw,?_⟩;obtain⟨f,hf⟩:=h.ends;cases f with
  |zero=>cases hf
  |succ f=>
    grind [j0,h.Wr]
theorem HGo.exit{imm:Int}(h:HGo C k (⟨19,0,0,0,imm⟩::l) R W M):imm=1/\M=⟨R,W,(k:Int)⟩:=by
  obtain⟨f,hf⟩:=h.ends;cases f with
  |zero=>cases hf
  |succ f=>
    unfold j0 at hf;rw[h.Wr]at hf;have e:hdo ⟨19,0,0,0,imm⟩ ⟨R,W,(k:Int)⟩=(1,⟨R,W,(k:Int)⟩):=rfl;rw[e]at hf;dsimp only at hf;rw[show((1:Int)==0)=false from rfl,show((1:Int)==1)=true from rfl,ah,ai]at hf;have h2:(((1:Int),(C.getD ((k:Int)).toNat HI.zero).imm),(⟨R,W,(k:Int)⟩:HM))=(((1:Int),(1:Int)),M):=hf;rw[aN,h.code.2.1]at h2
    grind
variable{v:Int}
theorem de(hj:j<R.length):(R.set j v).getD j 0=v:=by
  grind
theorem cS{i:Nat}(h:i≠j):(R.set i v).getD j 0=R.getD j 0:=by
  grind
def kV(except:List Nat)(R R':Li):Prop:=∀j,j∉except->R'.getD j 0=R.getD j 0
theorem kV.refl(e:List Nat)(R:Li):kV e R R:=λ_ _=>rfl
theorem kV.trans{e e':List Nat}{A B D:Li}(h:kV e A B)(h':kV e' B D){e2:List Nat}(hs:∀x,x∈e\/x∈e'->x∈e2):kV e2 A D:=λj hj=>(h' j λhx=>hj (hs j (Or.inr hx))).trans (h j λhx=>hj (hs j (Or.inl hx)))
theorem kV.set(R:Li)(j:Nat)(v:Int){e:List Nat}(hj:j∈e):kV e R (R.set j v):=λi hi=>cS (λh=>hi (h▸hj))
variable{rd:Nat}
theorem HGo.li(h:HGo C k (⟨1,(rd:Int),0,0,v⟩::l) R W M):HGo C (k+1) l (R.set rd v) W M:=
  h.on rfl (by simp[h.rl]) h.wl h.code.2.2
theorem HGo.op{op:Int}{rd ra rb:Nat}{v:Int}(h:HGo C k (⟨op,(rd:Int),(ra:Int),(rb:Int),0⟩::l) R W M)(h2:2<=op)(h13:op<=13)(hv:kH op (R.getD ra 0) (R.getD rb 0)=v):HGo C (k+1) l (R.set rd v) W M:=by
  refine h.on ?_ (by simp[h.rl]) h.wl h.code.2.2;unfold hdo
  grind [kH,Int.toNat_natCast]
variable{ra:Nat}
theorem HGo.mov(h:HGo C k (⟨2,(rd:Int),(ra:Int),0,0⟩::l) R W M):HGo C (k+1) l (R.set rd (R.getD ra 0)) W M:=
  HGo.op (rb:=0) h bX bX rfl
theorem HGo.ld{p:Nat}{im:Int}(h:HGo C k (⟨14,(rd:Int),(ra:Int),0,im⟩::l) R W M)(hp:IntKind.u64.wrap (R.getD ra 0+im)=(p:Int))(hp2:p<256):HGo C (k+1) l (R.set rd (W.getD p 0)) W M:=by
  refine h.on ?_ (by simp[h.rl]) h.wl h.code.2.2;have e:qK R ⟨14,(rd:Int),(ra:Int),0,im⟩=(p:Int):=hp;unfold hdo;dsimp only;rw[e,show decide ((W.length:Int)<=(p:Int))=false from aF (by rw[h.wl];omega)]
  rfl
theorem HGo.st{rb p:Nat}{im:Int}(h:HGo C k (⟨15,0,(ra:Int),(rb:Int),im⟩::l) R W M)(hp:IntKind.u64.wrap (R.getD ra 0+im)=(p:Int))(hp2:p<256)(hv:IntKind.u32.wrap (R.getD rb 0)=v):HGo C (k+1) l R (W.set p v) M:=by
  refine h.on ?_ h.rl (by simp[h.wl]) h.code.2.2;have e:qK R ⟨15,0,(ra:Int),(rb:Int),im⟩=(p:Int):=hp;unfold hdo;dsimp only;rw[e,show decide ((W.length:Int)<=(p:Int))=false from aF (by rw[h.wl];omega)]
  grind
theorem HGo.bnez(h:HGo C k (⟨17,0,(ra:Int),0,(j:Int)⟩::l) R W M)(hl:C.drop j=l'):R.getD ra 0=0/\HGo C (k+1) l R W M\/R.getD ra 0≠0/\HGo C j l' R W M:=by
  by_cases h0:R.getD ra 0=0
  . refine Or.inl ⟨h0,h.on ?_ h.rl h.wl h.code.2.2⟩
    show(0,(⟨R,W,bif(R.getD ((ra:Int)).toNat 0==0)==false then(j:Int)else(k:Int)+1⟩:HM))=_
    grind
  refine Or.inr ⟨h0,h.on ?_ h.rl h.wl hl⟩;show(0,(⟨R,W,bif(R.getD ((ra:Int)).toNat 0==0)==false then(j:Int)else(k:Int)+1⟩:HM))=_
  grind
theorem HGo.beqz(h:HGo C k (⟨16,0,(ra:Int),0,(j:Int)⟩::l) R W M)(hl:C.drop j=l'):R.getD ra 0≠0/\HGo C (k+1) l R W M\/R.getD ra 0=0/\HGo C j l' R W M:=by
  by_cases h0:R.getD ra 0=0
  . refine Or.inr ⟨h0,h.on ?_ h.rl h.wl hl⟩
    show(0,(⟨R,W,bif(R.getD ((ra:Int)).toNat 0==0)==true then(j:Int)else(k:Int)+1⟩:HM))=_
    grind
  refine Or.inl ⟨h0,h.on ?_ h.rl h.wl h.code.2.2⟩;show(0,(⟨R,W,bif(R.getD ((ra:Int)).toNat 0==0)==true then(j:Int)else(k:Int)+1⟩:HM))=_
  grind
end
def tp(op:Int):Int:=bif op==16 then 3 else bif op==18 then 5 else bif op==19 then 6 else bif op==20 then 7 else bif op==21 then 8 else bif op==22 then 9 else bif op==23 then 10 else 4
def VE(r:Int):List HI:=[⟨1,12,0,0,4294967295⟩,⟨5,r,r,12,0⟩]
def Ba(op:Int):Bool:=op==18||op==19||op==20||op==22
def zI(op rd a b:Int):List HI:=⟨tp op,rd,a,b,0⟩::(bif Ba op then[]else VE rd)
def yi(r up:Int):List HI:=[⟨1,12,0,0,up⟩,⟨8,r,r,12,0⟩,⟨6,10,10,r,0⟩]
def iq(rd r:Int):List HI:=[⟨1,12,0,0,31⟩,⟨9,rd,r,12,0⟩]
def gV:List HI:=⟨5,11,11,12,0⟩::(iq 11 11++yi 11 3)
def fS(op a b:Int):List HI:=zI op 9 a b++(⟨13,10,9,15,0⟩::(iq 11 9++yi 11 1))
def kM(a b:Int):List HI:=⟨12,11,9,a,0⟩::(yi 11 2++(⟨7,11,a,9,0⟩::⟨7,12,b,9,0⟩::gV))
def kL(a b:Int):List HI:=⟨12,11,a,b,0⟩::(yi 11 2++(⟨7,11,a,b,0⟩::⟨7,12,a,9,0⟩::gV))
def mI(op a b:Int):List HI:=fS op a b++(bif op==16 then kM a b else bif op==17||op==25 then kL a b else[])
def xK(op x y:Int):Int:=bif op==25 then IntKind.u32.wrap (x - y)else(jR op x y).1
section
variable {C l:List HI} {k:Nat} {R W:Li} {M:HM}
variable{rd:Nat}
theorem HGo.low{z:Int}(h:HGo C k (VE rd++l) R W M)(hz:R.getD rd 0=IntKind.u64.wrap z)(hr:rd<12):∃k' R',HGo C k' l R' W M/\R'.getD rd 0=IntKind.u32.wrap z/\kV [rd,12] R R':=by
 have h1:=HGo.li (rd:=12) h;have hl:=h1.rl;have e1:(R.set 12 4294967295).getD rd 0=IntKind.u64.wrap z:=by rw[cS Wq1,hz]
 have e2:(R.set 12 4294967295).getD 12 0=4294967295:=de bY;have h2:=HGo.op (rd:=rd) (ra:=rd) (rb:=12) (v:=IntKind.u32.wrap z) h1 bX bX (by rw[e1,e2];exact low64 z);refine⟨_,_,h2,de Wq1,?_⟩;exact(kV.set R 12 _ (e:=[rd,12]) cP).trans (kV.set _ rd _ (e:=[rd,12]) cP) bY
variable{x y:Nat}
theorem uR{op:Int}(hop:(16<=op/\op<=23)\/op=25)(hx:x<4294967296)(hy:y<4294967296):∃r:Nat,xK op x y=r/\r<4294967296:=by
 have hw:∀z:Int,∃r:Nat,IntKind.u32.wrap z=r/\r<4294967296:=λz=>by
  rw[aG];exact⟨(z%4294967296).toNat,by omega,by omega⟩
 have h:op=16\/op=17\/op=18\/op=19\/op=20\/op=21\/op=22\/op=23\/op=25:=by omega
 rcases h with rfl|rfl|rfl|rfl|rfl|rfl|rfl|rfl|rfl
 .exact hw _
 .exact hw _
 .exact⟨x&&&y,Qb hx hy,uQ hx⟩
 .exact⟨x|||y,or32 hx hy,Nat.or_lt_two_pow (n:=32) hx hy⟩
 .exact⟨x^^^y,Jw hx hy,iM hx hy⟩
 .show∃r:Nat,iA (x:Int) (y:Int) true=r/\_;unfold iA;cases decide (32<=(y:Int))with
  |true=>exact⟨0,rfl,by decide⟩
  |false=>exact hw _
 .show∃r:Nat,iA (x:Int) (y:Int) false=r/\_;unfold iA;cases decide (32<=(y:Int))with
  |true=>exact⟨0,rfl,by decide⟩
  |false=>
   refine⟨x/2^(min y IntKind.u32.bits),?_,Nat.lt_of_le_of_lt (Nat.div_le_self _ _) hx⟩
   grind
 .exact hw _
 exact hw _
theorem shl64:IntKind.u32.wrap ((x:Int)*2^(min ((y:Int)).toNat IntKind.u64.bits))=iA (x:Int) (y:Int) true:=by
 unfold iA;rw[aN];by_cases h:32<=y
 .rw[aE (show 32<=(y:Int) by omega)];show _=(0:Int);obtain⟨m,hm⟩:∃m,min y IntKind.u64.bits=32+m:=⟨min y IntKind.u64.bits - 32,by show min y 64=32+(min y 64 - 32);omega⟩
  grind [IntKind.wrap_u32,Int.pow_add,Int.mul_assoc,Int.mul_comm,Int.mul_emod_right]
 rw[aF (show¬32<=(y:Int) by omega)];show _=IntKind.u32.wrap ((x:Int)*2^(min y IntKind.u32.bits));rw[show min y IntKind.u64.bits=y by show min y 64=y;omega,show min y IntKind.u32.bits=y by show min y 32=y;omega]
theorem shr64(hx:x<4294967296):(x:Int).fdiv (2^(min ((y:Int)).toNat IntKind.u64.bits))=iA (x:Int) (y:Int) false:=by
 unfold iA;rw[aN];by_cases h:32<=y
 .rw[aE (show 32<=(y:Int) by omega)];show _=(0:Int);obtain⟨m,hm⟩:∃m,min y IntKind.u64.bits=32+m:=⟨min y IntKind.u64.bits - 32,by show min y 64=32+(min y 64 - 32);omega⟩;rw[hm,Int.fdiv_eq_ediv_of_nonneg _ bY];refine Int.ediv_eq_zero_of_lt Wq1 ?_;have h1:(2:Nat)^32<=2^(32+m):=Nat.pow_le_pow_right bX Wq1
  grind
 rw[aF (show¬32<=(y:Int) by omega)];show _=(x:Int).fdiv (2^(min y IntKind.u32.bits));rw[show min y IntKind.u64.bits=y by show min y 64=y;omega,show min y IntKind.u32.bits=y by show min y 32=y;omega]
variable{ra rb:Nat}
theorem HGo.alu{op:Int}(hop:(16<=op/\op<=23)\/op=25)(h:HGo C k (zI op rd ra rb++l) R W M)(hrd:rd<12)(hx:R.getD ra 0=x)(hy:R.getD rb 0=y)(hx2:x<4294967296)(hy2:y<4294967296):
  ∃k' R',HGo C k' l R' W M/\R'.getD rd 0=xK op x y/\kV [rd,12] R R':=by
 have hl:=h.rl;have hlow:∀(o:Int) (z:Int),2<=o->o<=13->HGo C k (⟨o,(rd:Int),(ra:Int),(rb:Int),0⟩::(VE rd++l)) R W M->kH o x y=IntKind.u64.wrap z->
   ∃k' R',HGo C k' l R' W M/\R'.getD rd 0=IntKind.u32.wrap z/\kV [rd,12] R R':=λo z h1 h2 g hz=>by
  have g1:=HGo.op g h1 h2 (v:=IntKind.u64.wrap z) bY;obtain⟨k',R',g2,g3,g4⟩:=g1.low (de Wq1) hrd;exact⟨k',R',g2,g3,(kV.set R rd _ (e:=[rd,12]) cP).trans g4 bY⟩
 have hno:∀(o z:Int),2<=o->o<=13->HGo C k (⟨o,(rd:Int),(ra:Int),(rb:Int),0⟩::l) R W M->kH o x y=z->∃k' R',HGo C k' l R' W M/\R'.getD rd 0=z/\kV [rd,12] R R':=λo z h1 h2 g hz=>
  ⟨_,_,HGo.op g h1 h2 (v:=z) bY,de Wq1,kV.set R rd _ cP⟩
 have h8:op=16\/op=17\/op=18\/op=19\/op=20\/op=21\/op=22\/op=23\/op=25:=by omega
 rcases h8 with rfl|rfl|rfl|rfl|rfl|rfl|rfl|rfl|rfl
 .exact hlow 3 _ bX bX h rfl
 .exact hlow 4 _ bX bX h rfl
 .exact hno 5 _ bX bX h (show bits .and .u64 (x:Int) (y:Int)=bits .and .u32 (x:Int) (y:Int) by grind [Qa,Qb])
 .exact hno 6 _ bX bX h (show bits .or .u64 (x:Int) (y:Int)=bits .or .u32 (x:Int) (y:Int) by grind [or64,or32])
 .exact hno 7 _ bX bX h (show bits .xor .u64 (x:Int) (y:Int)=bits .xor .u32 (x:Int) (y:Int) by grind [Jv,Jw])
 .obtain⟨k',R',g1,g2,g3⟩:=hlow 8 _ bX bX h rfl;exact⟨k',R',g1,g2.trans shl64,g3⟩
 .exact hno 9 _ bX bX h (shr64 hx2)
 .exact hlow 10 _ bX bX h rfl
 exact hlow 4 _ bX bX h rfl
theorem Jd:∀(a b c d:Bool),bits .or .u64 (b2i a) (IntKind.u64.wrap (b2i b*2^(min (Int.toNat 1) IntKind.u64.bits)))=b2i a+2*b2i b/\bits .or .u64 (b2i a+2*b2i b) (IntKind.u64.wrap (b2i c*2^(min (Int.toNat 2) IntKind.u64.bits)))=b2i a+2*b2i b+4*b2i c/\
  bits .or .u64 (b2i a+2*b2i b+4*b2i c) (IntKind.u64.wrap (b2i d*2^(min (Int.toNat 3) IntKind.u64.bits)))=b2i a+2*b2i b+4*b2i c+8*b2i d:=by decide+kernel
theorem HGo.bit{up s c s':Int}(h:HGo C k (yi 11 up++l) R W M)(hs:R.getD 10 0=s)(hc:R.getD 11 0=c)(h':bits .or .u64 s (IntKind.u64.wrap (c*2^(min up.toNat IntKind.u64.bits)))=s'):
  ∃k' R',HGo C k' l R' W M/\R'.getD 10 0=s'/\kV [10,11,12] R R':=by
 have hl:=h.rl;have h1:=HGo.li (rd:=12) h;have h2:=HGo.op (rd:=11) (ra:=11) (rb:=12) (v:=IntKind.u64.wrap (c*2^(min up.toNat IntKind.u64.bits))) h1 bX bX (by rw[cS bX,hc,de Wq1];rfl);have h3:=HGo.op (rd:=10) (ra:=10) (rb:=11) (v:=s') h2 bX bX (by rw[cS bX,cS bX,hs,de bY];exact h');refine⟨_,_,h3,de bY,?_⟩;exact((kV.set R 12 _ (e:=[10,11,12]) cP).trans (kV.set _ 11 _ (e:=[10,11,12]) cP) (e2:=[10,11,12]) bY).trans (kV.set _ 10 _ (e:=[10,11,12]) cP) bY
theorem HGo.signed{r:Nat}(h:HGo C k (iq rd r++l) R W M)(hrd:rd<12)(hr:r<12)(hx:R.getD r 0=x)(hx2:x<4294967296):∃k' R',HGo C k' l R' W M/\R'.getD rd 0=b2i (decide (2147483648<=x))/\kV [rd,12] R R':=by
 have hl:=h.rl;have h1:=HGo.li (rd:=12) h;have h2:=HGo.op (rd:=rd) (ra:=r) (rb:=12) (v:=b2i (decide (2147483648<=x))) h1 bX bX (by rw[cS Wq1,hx,de Wq1];exact shr31 hx2);refine⟨_,_,h2,de bY,?_⟩;exact(kV.set R 12 _ (e:=[rd,12]) cP).trans (kV.set _ rd _ (e:=[rd,12]) cP) bY
theorem jh{r:Nat}(hr:r<4294967296):dC (r:Int)=b2i ((r:Int)==0)+2*b2i (decide (2147483648<=r)):=by
 unfold dC;rw[top32 hr];cases(r:Int)==0<;>cases decide (2147483648<=r)<;>rfl
theorem wK(a b r o:Int)(p q c:Bool):oa a b r (b2i p+2*b2i q) c o=b2i p+2*b2i q+4*b2i c+8*b2i (o !=0):=by
 unfold oa;cases o !=0<;>cases p<;>cases q<;>cases c<;>rfl
theorem HGo.flagB{op:Int}(hop:(16<=op/\op<=23)\/op=25)(h:HGo C k (fS op ra rb++l) R W M)(h15:R.getD 15 0=0)(hx:R.getD ra 0=x)(hy:R.getD rb 0=y)(hx2:x<4294967296)(hy2:y<4294967296):
  ∃k' R' r,HGo C k' l R' W M/\xK op x y=(r:Nat)/\r<4294967296/\R'.getD 9 0=(r:Int)/\R'.getD 10 0=b2i ((r:Int)==0)+2*b2i (decide (2147483648<=r))/\kV [9,10,11,12] R R':=by
 obtain⟨r,hr,hr2⟩:=uR hop hx2 hy2;have h:HGo C k (zI op 9 ra rb++(⟨13,10,9,15,0⟩::(iq 11 9++(yi 11 1++l)))) R W M:=by
  have:fS op ra rb++l=zI op 9 ra rb++(⟨13,10,9,15,0⟩::(iq 11 9++(yi 11 1++l))):=by unfold fS;exact Uq
  rwa[this]at h
 obtain⟨k1,R1,g1,g2,g3⟩:=HGo.alu (rd:=9) hop h bX hx hy hx2 hy2;rw[hr]at g2;have g4:=HGo.op (rd:=10) (ra:=9) (rb:=15) (v:=b2i ((r:Int)==0)) g1 bX bX (by rw[g2,g3 15 bX,h15];rfl);obtain⟨k2,R2,p1,p2,p3⟩:=HGo.signed (rd:=11) (r:=9) (x:=r) g4 bX bX bY hr2;have e10:R2.getD 10 0=b2i ((r:Int)==0):=by rw[p3 10 bX,de (by rw[g1.rl];decide)]
 obtain⟨k3,R3,q1,q2,q3⟩:=HGo.bit p1 e10 p2 (Jd ((r:Int)==0) (decide (2147483648<=r)) false false).1;have e9:R3.getD 9 0=(r:Int):=by rw[q3 9 bX,p3 9 bX,cS bX,g2]
 refine⟨k3,R3,r,q1,hr,hr2,e9,q2,?_⟩;intro j hj;simp only[aJ,aY,or_false,not_or]at hj;rw[q3 j gW,p3 j gW,cS Wq1,g3 j gW]
theorem HGo.flagE{p q c:Bool}{u v:Nat}(h:HGo C k (gV++l) R W M)(h10:R.getD 10 0=b2i p+2*b2i q+4*b2i c)(h11:R.getD 11 0=u)(h12:R.getD 12 0=v)(hu:u<4294967296)(hv:v<4294967296):
  ∃k' R',HGo C k' l R' W M/\R'.getD 10 0=b2i p+2*b2i q+4*b2i c+8*b2i (decide (2147483648<=u&&&v))/\kV [10,11,12] R R':=by
 have g1:=HGo.op (rd:=11) (ra:=11) (rb:=12) (v:=((u&&&v:Nat):Int)) (l:=iq 11 11++(yi 11 3++l)) (by
  have:gV++l=⟨5,11,11,12,0⟩::(iq 11 11++(yi 11 3++l)):=by unfold gV;exact Uq
  rw[this]at h;exact h) bX bX (by rw[h11,h12];exact Qa Wq1 Wq1)
 obtain⟨k2,R2,p1,p2,p3⟩:=HGo.signed (rd:=11) (r:=11) (x:=u&&&v) g1 bX bX (de (by rw[h.rl];decide)) (uQ hu);obtain⟨k3,R3,q1,q2,q3⟩:=HGo.bit p1 (show R2.getD 10 0=_ by rw[p3 10 bX,cS bX,h10]) p2 (Jd p q c (decide (2147483648<=u&&&v))).2.2;refine⟨k3,R3,q1,q2,?_⟩;intro j hj;simp only[aJ,aY,or_false,not_or]at hj;rw[q3 j gW,p3 j gW,cS Wq1]
theorem HGo.flag{op:Int}(hop:(16<=op/\op<=23)\/op=25)(h:HGo C k (mI op ra rb++l) R W M)(ha:ra<9)(hb:rb<9)(h15:R.getD 15 0=0)(hx:R.getD ra 0=x)(hy:R.getD rb 0=y)(hx2:x<4294967296)(hy2:y<4294967296):
  ∃k' R',HGo C k' l R' W M/\R'.getD 10 0=(jR op x y).2.1/\kV [9,10,11,12] R R':=by
 have h:HGo C k (fS op ra rb++((bif op==16 then kM ra rb else bif op==17||op==25 then kL ra rb else[])++l)) R W M:=by
  have:mI op ra rb++l=fS op ra rb++((bif op==16 then kM ra rb else bif op==17||op==25 then kL ra rb else[])++l):=by unfold mI;rw[aq]
  rwa[this]at h
 obtain⟨k1,R1,r,g1,g2,g3,g4,g5,g6⟩:=HGo.flagB hop h h15 hx hy hx2 hy2;have ex:R1.getD ra 0=x:=by rw[g6 ra gW,hx]
 have ey:R1.getD rb 0=y:=by rw[g6 rb gW,hy]
 have hsub:∀op',xK op' x y=(r:Nat)->xK op' x y=IntKind.u32.wrap ((x:Int) - y)->HGo C k1 (kL ra rb++l) R1 W M->∃k' R',HGo C k' l R' W M/\R'.getD 10 0=mX x y/\kV [9,10,11,12] R R':=λop' e1 e2 g=>by
  have g:HGo C k1 (⟨12,11,(ra:Int),(rb:Int),0⟩::(yi 11 2++(⟨7,11,(ra:Int),(rb:Int),0⟩::⟨7,12,(ra:Int),9,0⟩::(gV++l)))) R1 W M:=by
   have:kL ra rb++l=⟨12,11,(ra:Int),(rb:Int),0⟩::(yi 11 2++(⟨7,11,(ra:Int),(rb:Int),0⟩::⟨7,12,(ra:Int),9,0⟩::(gV++l))):=by unfold kL;exact Uq
   rwa[this]at g
  have a1:=HGo.op (rd:=11) (ra:=ra) (rb:=rb) (v:=b2i (decide ((x:Int)<y))) g bX bX (by rw[ex,ey];rfl);obtain⟨k2,R2,b1,b2,b3⟩:=HGo.bit a1 (show(R1.set 11 _).getD 10 0=_ by grind) (de (by rw[g1.rl];decide)) (Jd ((r:Int)==0) (decide (2147483648<=r)) (decide ((x:Int)<y)) false).2.1;have c1:=HGo.op (rd:=11) (ra:=ra) (rb:=rb) (v:=((x^^^y:Nat):Int)) b1 bX bX (by rw[b3 ra gW,b3 rb gW,cS Wq1,cS Wq1,ex,ey];exact Jv Wq1 Wq1);have c2:=HGo.op (rd:=12) (ra:=ra) (rb:=9) (v:=((x^^^r:Nat):Int)) c1 bX bX (by rw[cS Wq1,cS bX,b3 ra gW,b3 9 bX,cS Wq1,cS bX,ex,g4];exact Jv Wq1 Wq1);obtain⟨k3,R3,d1,d2,d3⟩:=HGo.flagE (p:=(r:Int)==0) (q:=decide (2147483648<=r)) (c:=decide ((x:Int)<y)) c2 bY (by simp[cS,de,b1.rl]) (de (by simp[b1.rl])) (iM hx2 hy2) (iM hx2 g3);refine⟨k3,R3,d1,?_,?_⟩
  .rw[d2];unfold mX;rw[<-e2,e1,jh g3,wK,Jw hx2 hy2,Jw hx2 g3,Qb (iM hx2 hy2) (iM hx2 g3),top32 (uQ (iM hx2 hy2))]
  intro j hj;simp only[aJ,aY,or_false,not_or]at hj;rw[d3 j gW,cS Wq1,cS Wq1,b3 j gW,cS Wq1,g6 j gW]
 have hno:∀op',xK op' x y=(r:Nat)->HGo C k1 l R1 W M->(jR op' x y).2.1=dC (xK op' x y)->∃k' R',HGo C k' l R' W M/\R'.getD 10 0=(jR op' x y).2.1/\kV [9,10,11,12] R R':=λop' e1 g e2=>
  ⟨k1,R1,g,by grind [jh],g6⟩
 have h8:op=16\/op=17\/op=18\/op=19\/op=20\/op=21\/op=22\/op=23\/op=25:=by omega
 rcases h8 with rfl|rfl|rfl|rfl|rfl|rfl|rfl|rfl|rfl
 .have g:HGo C k1 (⟨12,11,9,(ra:Int),0⟩::(yi 11 2++(⟨7,11,(ra:Int),9,0⟩::⟨7,12,(rb:Int),9,0⟩::(gV++l)))) R1 W M:=by
   have:kM ra rb++l=⟨12,11,9,(ra:Int),0⟩::(yi 11 2++(⟨7,11,(ra:Int),9,0⟩::⟨7,12,(rb:Int),9,0⟩::(gV++l))):=by unfold kM;exact Uq
   have g1:HGo C k1 (kM ra rb++l) R1 W M:=g1;rwa[this]at g1
  have a1:=HGo.op (rd:=11) (ra:=9) (rb:=ra) (v:=b2i (decide ((r:Int)<x))) g bX bX (by rw[ex,g4];rfl);obtain⟨k2,R2,b1,b2,b3⟩:=HGo.bit a1 (show(R1.set 11 _).getD 10 0=_ by grind) (de (by rw[g1.rl];decide)) (Jd ((r:Int)==0) (decide (2147483648<=r)) (decide ((r:Int)<x)) false).2.1;have c1:=HGo.op (rd:=11) (ra:=ra) (rb:=9) (v:=((x^^^r:Nat):Int)) b1 bX bX (by rw[b3 ra gW,b3 9 bX,cS Wq1,cS bX,ex,g4];exact Jv Wq1 Wq1);have c2:=HGo.op (rd:=12) (ra:=rb) (rb:=9) (v:=((y^^^r:Nat):Int)) c1 bX bX (by rw[cS Wq1,cS bX,b3 rb gW,b3 9 bX,cS Wq1,cS bX,ey,g4];exact Jv Wq1 Wq1);obtain⟨k3,R3,d1,d2,d3⟩:=HGo.flagE (p:=(r:Int)==0) (q:=decide (2147483648<=r)) (c:=decide ((r:Int)<x)) c2 bY (by simp[cS,de,b1.rl]) (de (by simp[b1.rl])) (iM hx2 g3) (iM hy2 g3);refine⟨k3,R3,d1,?_,?_⟩
  .rw[d2];show _=tv x y;unfold tv;have e2:IntKind.u32.wrap ((x:Int)+y)=(r:Int):=g2;rw[e2,jh g3,wK,Jw hx2 g3,Jw hy2 g3,Qb (iM hx2 g3) (iM hy2 g3),top32 (uQ (iM hx2 g3))]
  intro j hj;simp only[aJ,aY,or_false,not_or]at hj;rw[d3 j gW,cS Wq1,cS Wq1,b3 j gW,cS Wq1,g6 j gW]
 .exact hsub 17 g2 rfl g1
 .exact hno 18 g2 g1 rfl
 .exact hno 19 g2 g1 rfl
 .exact hno 20 g2 g1 rfl
 .exact hno 21 g2 g1 rfl
 .exact hno 22 g2 g1 rfl
 .exact hno 23 g2 g1 rfl
 exact hsub 25 g2 rfl g1
end
end Go.Ink
