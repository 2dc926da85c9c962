/- Lemmas. -/
import Derived.Test.YtakodpimdalajaaGreatDoorPaa
import Derived.Test.YtakodpimdalajaaGreatDoorPab
import Derived.Test.YtakodpimdalajaaGreatDoorPag
set_option linter.unusedSimpArgs false
set_option linter.unusedVariables false
set_option maxRecDepth 100000
set_option maxHeartbeats 4000000
namespace Go.Ink
open Go.RowKit
section
variable {s:St} {op nn:Int}
theorem Ja{R:Run}(hs:s.right=true)(hp:dx op=true)(ho:gO op nn=true)(hm:wD s op nn=R)(ht:R.JA=Tr.none)(hv:R.device=false)
  (h1:(bS op).1.1≤s.d.length) (h2:(bS op).2.1≤s.r.length) (h3:s.d.length+(bS op).1.2≤16+(bS op).1.1) (h4:s.r.length+(bS op).2.2≤16+(bS op).2.1):
  doN s op nn=⟨R.s,false,false,[]⟩:=by
 have hn:j8 s (bS op)=0:=by
  unfold j8;rw[show decide ((s.d.length:Int)<((bS op).1.1:Int))=false from az Wq1,show decide ((s.r.length:Int)<((bS op).2.1:Int))=false from az Wq1,
   show decide (16<(s.d.length:Int) - ((bS op).1.1:Int)+((bS op).1.2:Int))=false from az Wq1,show decide (16<(s.r.length:Int) - ((bS op).2.1:Int)+((bS op).2.2:Int))=false from az Wq1]
  rfl
 have hc:=iS hp;have e1:rq op=false:=by unfold rq;rw[show decide (65≤op)=false from az Wq1];rfl
 have e2:(op==66)=false:=by simp;omega
 have e3:(op==67)=false:=by simp;omega
 unfold doN gc;rw[hs,ho,hn,e1,e2,e3,hm];show I9 s R=_;unfold I9;rw[ht,hv]
 rfl
theorem tD(h:(16≤op∧op≤23)∨op=25)(R:Run):dF op nn R=none∧cH op nn R=(true,bif op !=25 then(R.pop.pop.wfl (iu op R.pop.top R.top).2.1).push [(iu op R.pop.top R.top).1]else R.pop.pop.wfl (iu op R.pop.top R.top).2.1):=by
 have h:op=16∨op=17∨op=18∨op=19∨op=20∨op=21∨op=22∨op=23∨op=25:=by omega
 rcases h with rfl|rfl|rfl|rfl|rfl|rfl|rfl|rfl|rfl<;>exact⟨rfl,rfl⟩
theorem zL(h:33≤op∧op≤37)(R:Run):dF op nn R=none∧cH op nn R=(true,bif(cY op R.s.flags).1 then R.wpc (jl R nn)else R):=by
 have h:op=33∨op=34∨op=35∨op=36∨op=37:=by omega
 rcases h with rfl|rfl|rfl|rfl|rfl<;>exact⟨rfl,rfl⟩
end
def dK(s:St)(op:Int):Int:=IntKind.u32.wrap (s.pc+IntKind.u32.wrap (cy op))
def pI(D R:List Int)(w:Lw)(op nn nx f:Int):Int:=
 bif(cY w.branch f).1 then IntKind.u32.wrap (nx+kL nn)else bif w.target== -1 then(bif op==32||op==38 then IntKind.u32.wrap (nx+kL nn)else nx)else dT D R w.code w.target
structure yS(D R:List Int)(f0:Int)(s:St)(op nn:Int)(w':Lw)(s':St):Prop where
 did:doN s op nn=⟨s',false,false,[]⟩
 li:LI D R w' s'.d s'.r
 fl:FL D R f0 w' s'.flags
 pc:s'.pc=pI D R w' op nn (dK s op) s'.flags
 tg:w'.target= -1∨II.in_ w'.target w'.code
 going:op<32→w'.target= -1∧w'.branch=0
 rest:s'=⟨s'.pc,s'.d,s'.r,s'.flags,s.Jq,s.Jv,s.ie,s.root,s.vec,s.epc,s.Jr,s.addr,s.JC,s.eie,IntKind.u64.wrap (s.count+1),s.halted⟩
section
variable {D R:List Int} {f0:Int} {s:St} {op nn:Int} {w w':Lw}
theorem qD{nx f:Int}(hb:w'.branch=0)(ht:w'.target= -1)(h:(op==32||op==38)=false):pI D R w' op nn nx f=nx:=by
 unfold pI;rw[hb,ht,h];rfl
theorem iM(td tr:List Int)(hs:s.right=true)(hp:dx op=true)(ho:gO op nn=true)(hm:dF op nn (eN s op)=some (((eN s op).wd td).wr tr))
  (h1:(bS op).1.1≤s.d.length) (h2:(bS op).2.1≤s.r.length) (h3:s.d.length+(bS op).1.2≤16+(bS op).1.1) (h4:s.r.length+(bS op).2.2≤16+(bS op).2.1)
  (hl:LI D R w' td tr) (hf:FL D R f0 w' s.flags) (hb:w'.branch=0) (ht:w'.target= -1) (ho2:(op==32||op==38)=false):∃s',yS D R f0 s op nn w' s':=
 ⟨(((eN s op).wd td).wr tr).s,Ja hs hp ho (by unfold wD;rw[hm]) rfl rfl h1 h2 h3 h4,hl,hf,(qD hb ht ho2).symm,Or.inl ht,fun _=>⟨ht,hb⟩,rfl⟩
theorem DF(w:Lw):w.d.Jp≤w.Js.2.d.Jp:=by
 show w.d.Jp≤(eL 1 w.code w.d).2.2.Jp;unfold eL;cases w.d.l.getLast? with
 |some n=>exact Int.le_refl _
 |none=>show w.d.Jp≤w.d.Jp+1;omega
theorem mQ{t l:List Int}{x:Int}(h:t=l++[x]):t.length=l.length+1:=by rw[h];simp
theorem uU{td tr:List Int}(h:LI D R w td tr)(hD:D.length≤100)(hn:w.Js.2.Js.2.d.Jp≤(D.length:Int)):
  ∃l x y,td=(l++[x])++[y]∧LI D R w.Js.2.Js.2 l tr∧II.in_ w.Js.1 w.Js.2.Js.2.code∧dT D R w.Js.2.Js.2.code w.Js.1=y∧
   II.in_ w.Js.2.Js.1 w.Js.2.Js.2.code∧dT D R w.Js.2.Js.2.code w.Js.2.Js.1=x∧∃e,w.Js.2.Js.2.code=w.code++e:=by
 obtain⟨l1,y,a1,a2,a3,a4,e1,a5⟩:=pd h hD (Int.le_trans (DF w.Js.2) hn);obtain⟨l,x,b1,b2,b3,b4,e2,b5⟩:=pd a2 hD hn;exact⟨l,x,y,by rw[a1,b1],b2,by rw[b5];exact pV e2 a3,by rw[b5,gR a3,a4],b3,b4,e1++e2,by rw[b5,a5,ap]⟩
theorem mj{R':Run}(hs:s.right=true)(hp:dx op=true)(ho:gO op nn=true)(hm:wD s op nn=R')(ht:R'.JA=Tr.none)(hv:R'.device=false)
  (h1:(bS op).1.1≤s.d.length) (h2:(bS op).2.1≤s.r.length) (h3:s.d.length+(bS op).1.2≤16+(bS op).1.1) (h4:s.r.length+(bS op).2.2≤16+(bS op).2.1)
  (hl:LI D R w' R'.s.d R'.s.r) (hf:FL D R f0 w' R'.s.flags) (hpc:R'.s.pc=pI D R w' op nn (dK s op) R'.s.flags) (htg:w'.target= -1∨II.in_ w'.target w'.code) (hgo:op<32→w'.target= -1∧w'.branch=0)
  (hr:R'.s=⟨R'.s.pc,R'.s.d,R'.s.r,R'.s.flags,s.Jq,s.Jv,s.ie,s.root,s.vec,s.epc,s.Jr,s.addr,s.JC,s.eie,IntKind.u64.wrap (s.count+1),s.halted⟩):∃s',yS D R f0 s op nn w' s':=
 ⟨R'.s,Ja hs hp ho hm ht hv h1 h2 h3 h4,hl,hf,hpc,htg,hgo,hr⟩
theorem kF(h:(16≤op∧op≤23)∨op=25)(w:Lw)(n nx:Int):w.go op n nx=w.Js.2.Js.2.reckon op w.Js.2.Js.1 w.Js.1:=by
 have h:op=16∨op=17∨op=18∨op=19∨op=20∨op=21∨op=22∨op=23∨op=25:=by omega
 rcases h with rfl|rfl|rfl|rfl|rfl|rfl|rfl|rfl|rfl<;>rfl
theorem j7(h:16≤op∧op≤23):bS op=((2,1),(0,0)):=by
 have h:op=16∨op=17∨op=18∨op=19∨op=20∨op=21∨op=22∨op=23:=by omega
 rcases h with rfl|rfl|rfl|rfl|rfl|rfl|rfl|rfl<;>rfl
theorem rh(h:(16≤op∧op≤23)∨op=25){l:List Int}{x y:Int}(hd:s.d=(l++[x])++[y]):
  wD s op nn=bif op !=25 then((eN s op).wd (l++[(iu op x y).1])).wfl (iu op x y).2.1 else((eN s op).wd l).wfl (iu op x y).2.1:=by
 have e0:eN s op=(eN s op).wd ((l++[x])++[y]):=congrArg (fun t=>(eN s op).wd t) hd;unfold wD;rw[(tD h (eN s op)).1];show(bif(cH op nn (eN s op)).1 then(cH op nn (eN s op)).2 else _)=_;rw[(tD h (eN s op)).2];have e1:(eN s op).top=y:=(congrArg Run.top e0).trans (Run.top_wd _ _ _);have e2:(eN s op).pop=(eN s op).wd (l++[x]):=(congrArg Run.pop e0).trans (Run.pop_wd _ _ _);have e3:(eN s op).pop.top=x:=(congrArg Run.top e2).trans (Run.top_wd _ _ _);have e4:(eN s op).pop.pop=(eN s op).wd l:=(congrArg Run.pop e2).trans (Run.pop_wd _ _ _);rw[e1,e3,e4]
 rfl
theorem zZ{c:List II}{a b x y:Int}(k6:dT D R c a=x)(k4:dT D R c b=y):dT D R (c++[⟨4,c.length,a,b,op⟩]) c.length=(iu op x y).2.1:=by
 rw[i6,←k6,←k4];rfl
theorem alu_new{c:List II}{a b x y:Int}(k6:dT D R c a=x)(k4:dT D R c b=y):dT D R (c++[⟨3,c.length,a,b,op⟩]) c.length=(iu op x y).1:=by
 rw[i6,←k6,←k4];rfl
theorem jump_no(h:(16≤op∧op≤23)∨op=25):(op==32||op==38)=false:=by
 have h:op=16∨op=17∨op=18∨op=19∨op=20∨op=21∨op=22∨op=23∨op=25:=by omega
 rcases h with rfl|rfl|rfl|rfl|rfl|rfl|rfl|rfl|rfl<;>rfl
theorem one_ok(hp:dx op=true)(ho:gO op nn=true)(hs:s.right=true)(h:LI D R w s.d s.r)(hf:FL D R f0 w s.flags)(hD:D.length≤16)(hR:R.length≤16)(ht:w.target= -1)(hb:w.branch=0)
  (n1:(w.one op nn (dK s op)).d.Jp≤(D.length:Int)) (n2:(w.one op nn (dK s op)).r.Jp≤(R.length:Int))
  (g1:(D.length:Int)+(w.one op nn (dK s op)).d.high≤16) (g2:(R.length:Int)+(w.one op nn (dK s op)).r.high≤16):∃s',yS D R f0 s op nn (w.one op nn (dK s op)) s':=by
 obtain⟨q1,q2, -⟩:=St.fits hs;obtain⟨nx,hnx⟩:=Zgn (dK s op);rcases oo hp with rfl|rfl|rfl|rfl|rfl|rfl|rfl|rfl|rfl|hr|hr|rfl|hr|rfl|rfl|rfl
 ·refine iM s.d s.r hs hp ho rfl (au _) (au _) q1 q2 h.Ju hf hb ht rfl
 ·have h6:LI D R (w.one 1 nn nx) (s.d++[nn]) s.r:=by
   have h7:=((h.add 0 0 0 nn).JX [w.here] (fun n hn=>by rw[aL.1 hn];exact mg _ _)).Ju;rw[List.map_cons,List.map_nil,show dT D R (w.add 0 0 0 nn).code w.here=nn from i6 _ _]at h7;exact h7
  have h8:=h6.Kv;rw[hnx]at g1;refine iM (s.d++[nn]) s.r hs hp ho rfl (au _) (au _) (show s.d.length+1≤16+0 from ?_) q2 (hnx▸h6) (hf.app (w':=w.one 1 nn (dK s 1)) rfl rfl) hb ht rfl;have h9:(((s.d++[nn]).length:Nat):Int)≤_:=h8;have h10:=Int.le_trans h9 g1;simp at h10;omega
 ·have h6:LI D R (w.one 2 nn nx) (s.d++[nn]) s.r:=by
   have h7:=((h.add 0 0 0 nn).JX [w.here] (fun n hn=>by rw[aL.1 hn];exact mg _ _)).Ju;rw[List.map_cons,List.map_nil,show dT D R (w.add 0 0 0 nn).code w.here=nn from i6 _ _]at h7;exact h7
  have h8:=h6.Kv;rw[hnx]at g1;refine iM (s.d++[nn]) s.r hs hp ho rfl (au _) (au _) (show s.d.length+1≤16+0 from ?_) q2 (hnx▸h6) (hf.app (w':=w.one 2 nn (dK s 2)) rfl rfl) hb ht rfl;have h9:(((s.d++[nn]).length:Nat):Int)≤_:=h8;have h10:=Int.le_trans h9 g1;simp at h10;omega
 ·obtain⟨l,x,k1,k2,k3,k4,e,k5⟩:=pd h Wq1 n1;have h6:LI D R (w.one 3 nn nx) (l++[x,x]) s.r:=by
   have h7:=(k2.JX [w.Js.1,w.Js.1] (by intro n hn;simp at hn;rw[hn];exact k3)).Ju;rw[show[w.Js.1,w.Js.1].map (dT D R w.Js.2.code)=[x,x] by simp[k4]]at h7;exact h7
  have h8:(((l++[x,x]:List Int).length:Nat):Int)≤_:=h6.Kv;rw[hnx]at g1;have h10:=Int.le_trans h8 g1;have h11:=mQ k1;simp at h10;refine iM (l++[x,x]) s.r hs hp ho ((congrArg (fun t=>dF 3 nn ((eN s 3).wd t)) k1).trans (nc nn (eN s 3) l x)) (show 1≤s.d.length by omega) (au _) (show s.d.length+2≤16+1 by omega) q2 (hnx▸h6) (hf.app (w':=w.one 3 nn (dK s 3)) k5 rfl) hb ht rfl
 ·obtain⟨l,x,k1,k2,k3,k4,e,k5⟩:=pd h Wq1 n1;have h6:LI D R (w.one 4 nn nx) (l) s.r:=by
   have h7:=k2.Ju;exact h7
  have h8:(((l:List Int).length:Nat):Int)≤_:=h6.Kv;rw[hnx]at g1;have h10:=Int.le_trans h8 g1;have h11:=mQ k1;refine iM (l) s.r hs hp ho ((congrArg (fun t=>dF 4 nn ((eN s 4).wd t)) k1).trans (lK nn (eN s 4) l x)) (show 1≤s.d.length by omega) (au _) (show s.d.length+0≤16+1 by omega) q2 (hnx▸h6) (hf.app (w':=w.one 4 nn (dK s 4)) k5 rfl) hb ht rfl
 ·obtain⟨l,x,y,k1,k2,k3,k4,k5,k6,e,k7⟩:=uU h Wq1 n1;have h6:LI D R (w.one 5 nn nx) (l++[y,x]) s.r:=by
   have h7:=(k2.JX [w.Js.1,w.Js.2.Js.1] (by intro n hn;simp at hn;rcases hn with rfl|rfl<;>first|exact k3|exact k5)).Ju;rw[show[w.Js.1,w.Js.2.Js.1].map (dT D R w.Js.2.Js.2.code)=[y,x] by simp[k4,k6]]at h7;exact h7
  have h8:(((l++[y,x]:List Int).length:Nat):Int)≤_:=h6.Kv;rw[hnx]at g1;have h10:=Int.le_trans h8 g1;have h11:s.d.length=l.length+2:=by rw[k1];simp
  simp at h10;refine iM (l++[y,x]) s.r hs hp ho ((congrArg (fun t=>dF 5 nn ((eN s 5).wd t)) k1).trans (lI nn (eN s 5) l x y)) (show 2≤s.d.length by omega) (au _) (show s.d.length+2≤16+2 by omega) q2 (hnx▸h6) (hf.app (w':=w.one 5 nn (dK s 5)) k7 rfl) hb ht rfl
 ·obtain⟨l,x,y,k1,k2,k3,k4,k5,k6,e,k7⟩:=uU h Wq1 n1;have h6:LI D R (w.one 6 nn nx) (l++[x,y,x]) s.r:=by
   have h7:=(k2.JX [w.Js.2.Js.1,w.Js.1,w.Js.2.Js.1] (by intro n hn;simp at hn;rcases hn with rfl|rfl|rfl<;>first|exact k3|exact k5)).Ju;rw[show[w.Js.2.Js.1,w.Js.1,w.Js.2.Js.1].map (dT D R w.Js.2.Js.2.code)=[x,y,x] by simp[k4,k6]]at h7;exact h7
  have h8:(((l++[x,y,x]:List Int).length:Nat):Int)≤_:=h6.Kv;rw[hnx]at g1;have h10:=Int.le_trans h8 g1;have h11:s.d.length=l.length+2:=by rw[k1];simp
  simp at h10;refine iM (l++[x,y,x]) s.r hs hp ho ((congrArg (fun t=>dF 6 nn ((eN s 6).wd t)) k1).trans (lJ nn (eN s 6) l x y)) (show 2≤s.d.length by omega) (au _) (show s.d.length+3≤16+2 by omega) q2 (hnx▸h6) (hf.app (w':=w.one 6 nn (dK s 6)) k7 rfl) hb ht rfl
 ·obtain⟨l,x,k1,k2,k3,k4,e,k5⟩:=pd h Wq1 n1;have h6:LI D R (w.one 7 nn nx) l (s.r++[x]):=by
   have h7:=(k2.Kt [w.Js.1] (by intro n hn;simp at hn;rw[hn];exact k3)).Ju;rw[show[w.Js.1].map (dT D R w.Js.2.code)=[x] by simp[k4]]at h7;exact h7
  have h8:(((s.r++[x]:List Int).length:Nat):Int)≤_:=h6.lenR;rw[hnx]at g2;have h10:=Int.le_trans h8 g2;have h11:=mQ k1;simp at h10;refine iM l (s.r++[x]) hs hp ho ((congrArg (fun t=>dF 7 nn ((eN s 7).wd t)) k1).trans (m8 nn (eN s 7) l x)) (show 1≤s.d.length by omega) (au _) (show s.d.length+0≤16+1 by omega) (show s.r.length+1≤16+0 by omega) (hnx▸h6) (hf.app (w':=w.one 7 nn (dK s 7)) k5 rfl) hb ht rfl
 ·obtain⟨l,x,k1,k2,k3,k4,e,k5⟩:=DE h Wq1 n2;have h6:LI D R (w.one 8 nn nx) (s.d++[x]) l:=by
   have h7:=(k2.JX [w.JT.1] (by intro n hn;simp at hn;rw[hn];exact k3)).Ju;rw[show[w.JT.1].map (dT D R w.JT.2.code)=[x] by simp[k4]]at h7;exact h7
  have h8:(((s.d++[x]:List Int).length:Nat):Int)≤_:=h6.Kv;rw[hnx]at g1;have h10:=Int.le_trans h8 g1;have h11:=mQ k1;simp at h10;refine iM (s.d++[x]) l hs hp ho ((congrArg (fun t=>dF 8 nn ((eN s 8).wr t)) k1).trans (kR nn (eN s 8) l x)) (au _) (show 1≤s.r.length by omega) (show s.d.length+1≤16+0 by omega) (show s.r.length+0≤16+1 by omega) (hnx▸h6) (hf.app (w':=w.one 8 nn (dK s 8)) k5 rfl) hb ht rfl
 ·have hr2:(16≤op∧op≤23)∨op=25:=Or.inl hr;have e25:(op !=25)=true:=by simp;omega
  have ew:w.one op nn (dK s op)=(((((w.Js.2.Js.2.add 4 w.Js.2.Js.1 w.Js.1 op).wfl w.Js.2.Js.2.here).add 3 w.Js.2.Js.1 w.Js.1 op).JX [((w.Js.2.Js.2.add 4 w.Js.2.Js.1 w.Js.1 op).wfl w.Js.2.Js.2.here).here])).Ju:=by
   refine(congrArg Lw.Ju (kF hr2 w nn _)).trans (congrArg Lw.Ju ?_);unfold Lw.reckon;rw[e25]
   rfl
  rw[ew]at n1 n2 g1 g2⊢;obtain⟨l,x,y,k1,k2,k3,k4,k5,k6,e,k7⟩:=uU h Wq1 n1;have h6:=(((k2.add 4 w.Js.2.Js.1 w.Js.1 op).wfl w.Js.2.Js.2.here).add 3 w.Js.2.Js.1 w.Js.1 op).JX [((w.Js.2.Js.2.add 4 w.Js.2.Js.1 w.Js.1 op).wfl w.Js.2.Js.2.here).here] (fun n hn=>by
   rw[aL.1 hn];exact mg _ _)
  have hv:=alu_new (D:=D) (R:=R) (op:=op) (c:=w.Js.2.Js.2.code++[⟨4,w.Js.2.Js.2.code.length,w.Js.2.Js.1,w.Js.1,op⟩]) ((gR k5).trans k6) ((gR k3).trans k4);rw[List.map_cons,List.map_nil]at h6;have h7:=Eq.mp (congrArg (fun v=>LI D R ((((w.Js.2.Js.2.add 4 w.Js.2.Js.1 w.Js.1 op).wfl w.Js.2.Js.2.here).add 3 w.Js.2.Js.1 w.Js.1 op).JX [((w.Js.2.Js.2.add 4 w.Js.2.Js.1 w.Js.1 op).wfl w.Js.2.Js.2.here).here]) (l++[v]) s.r) hv) h6;have h8:=h7.Ju.Kv;have h10:=Int.le_trans h8 g1;have h11:s.d.length=l.length+2:=by rw[k1];simp
  simp at h10;refine mj (R':=((eN s op).wd (l++[(iu op x y).1])).wfl (iu op x y).2.1) hs hp ho (by rw[rh hr2 k1,e25];rfl) rfl rfl ?_ ?_ ?_ ?_ h7.Ju ?_ ?_ (Or.inl ht) (fun _=>⟨ht,hb⟩) rfl
  ·rw[j7 hr];show 2≤_;omega
  ·rw[j7 hr];exact au _
  ·rw[j7 hr];show _+1≤16+2;omega
  ·rw[j7 hr];exact q2
  ·exact Or.inr ⟨pV _ (mg _ _),((gR (mg _ _)).trans (zZ k6 k4)).symm⟩
  refine Eq.symm (qD ?_ ?_ (jump_no hr2))
  ·exact hb
  exact ht
 ·subst hr;have ew:w.one 25 nn (dK s 25)=((w.Js.2.Js.2.add 4 w.Js.2.Js.1 w.Js.1 25).wfl w.Js.2.Js.2.here).Ju:=rfl;rw[ew]at n1 n2 g1 g2⊢;obtain⟨l,x,y,k1,k2,k3,k4,k5,k6,e,k7⟩:=uU h Wq1 n1;have h7:=((k2.add 4 w.Js.2.Js.1 w.Js.1 25).wfl w.Js.2.Js.2.here).Ju;have h11:s.d.length=l.length+2:=by rw[k1];simp
  refine mj (R':=((eN s 25).wd l).wfl (iu 25 x y).2.1) hs hp ho (by rw[rh (Or.inr rfl) k1];rfl) rfl rfl (show 2≤s.d.length by omega) (au _) (show s.d.length+0≤16+2 by omega) q2 h7 ?_ ?_ (Or.inl ht) (fun _=>⟨ht,hb⟩) rfl
  ·exact Or.inr ⟨mg _ _,(zZ k6 k4).symm⟩
  refine Eq.symm (qD ?_ ?_ rfl)
  ·exact hb
  exact ht
 ·refine mj (R':=(eN s 32).wpc (jl (eN s 32) nn)) hs hp ho rfl rfl rfl (au _) (au _) q1 q2 h.Ju hf ?_ (Or.inl ht) (fun h=>absurd h Wq5) rfl;show _=bif(cY w.branch s.flags).1 then _ else bif w.target== -1 then _ else _
  rw[hb,ht];rfl
 ·have h5:op=33∨op=34∨op=35∨op=36∨op=37:=by omega
  have eg:w.one op nn (dK s op)=(w.wbr op).Ju:=by rcases h5 with rfl|rfl|rfl|rfl|rfl<;>rfl
  have eq:bS op=((0,0),(0,0)):=by rcases h5 with rfl|rfl|rfl|rfl|rfl<;>rfl
  have ej:(op==32||op==38)=false:=by rcases h5 with rfl|rfl|rfl|rfl|rfl<;>rfl
  rw[eg]at n1 n2 g1 g2⊢;have em:wD s op nn=bif(cY op s.flags).1 then(eN s op).wpc (jl (eN s op) nn)else eN s op:=by
   unfold wD;rw[(zL hr _).1];show(bif(cH op nn (eN s op)).1 then(cH op nn (eN s op)).2 else _)=_;rw[(zL hr _).2];rfl
  cases hh:(cY op s.flags).1 with
  |true=>
   rw[hh]at em;refine mj (R':=(eN s op).wpc (jl (eN s op) nn)) hs hp ho em rfl rfl (by rw[eq];exact au _) (by rw[eq];exact au _) (by rw[eq];exact q1) (by rw[eq];exact q2) (h.wbr op).Ju hf ?_ (Or.inl ht) (fun h=>absurd h Wq1) rfl;show _=bif(cY op s.flags).1 then _ else _
   rw[hh];rfl
  |false=>
   rw[hh]at em;refine mj (R':=eN s op) hs hp ho em rfl rfl (by rw[eq];exact au _) (by rw[eq];exact au _) (by rw[eq];exact q1) (by rw[eq];exact q2) (h.wbr op).Ju hf ?_ (Or.inl ht) (fun h=>absurd h Wq1) rfl;show _=bif(cY op s.flags).1 then _ else bif w.target== -1 then(bif op==32||op==38 then _ else _)else _
   rw[hh,ht,ej];rfl
 ·have ew:w.one 38 nn (dK s 38)=((w.add 0 0 0 (dK s 38)).Kt [w.here]).Ju:=rfl;rw[ew]at n1 n2 g1 g2⊢;have h7:=((h.add 0 0 0 (dK s 38)).Kt [w.here] (fun n hn=>by rw[aL.1 hn];exact mg _ _)).Ju;rw[List.map_cons,List.map_nil,show dT D R (w.add 0 0 0 (dK s 38)).code w.here=dK s 38 from i6 _ _]at h7;have h10:=Int.le_trans h7.lenR g2;simp at h10;refine mj (R':=((eN s 38).Kw (dK s 38)).wpc (jl (eN s 38) nn)) hs hp ho rfl rfl rfl (au _) (au _) q1 (show s.r.length+1≤16+0 by omega) h7 (hf.app (w':=((w.add 0 0 0 (dK s 38)).Kt [w.here]).Ju) rfl rfl) ?_ (Or.inl ht) (fun h=>absurd h Wq5) rfl;show _=bif(cY w.branch s.flags).1 then _ else bif w.target== -1 then _ else _
  rw[hb,ht];rfl
 ·have ew:w.one 39 nn (dK s 39)=(w.JT.2.wtg w.JT.1).Ju:=rfl;rw[ew]at n1 n2 g1 g2⊢;obtain⟨l,x,k1,k2,k3,k4,e,k5⟩:=DE h Wq1 n2;have h11:=mQ k1;have e0:eN s 39=(eN s 39).wr (l++[x]):=congrArg (fun t=>(eN s 39).wr t) k1;have e1:(eN s 39).topR=x:=(congrArg Run.topR e0).trans (Run.topR_wr _ _ _);have e2:(eN s 39).JT=(eN s 39).wr l:=(congrArg Run.JT e0).trans (Run.popR_wr _ _ _);have em:wD s 39 nn=((eN s 39).wr l).wpc x:=by
   have:wD s 39 nn=(eN s 39).JT.wpc (eN s 39).topR:=rfl;rw[this,e1,e2]
  have e3:(w.JT.1== -1)=false:=by have:=k3.1;simp;omega
  refine mj (R':=((eN s 39).wr l).wpc x) hs hp ho em rfl rfl (au _) (show 1≤s.r.length by omega) q1 (show s.r.length+0≤16+1 by omega) (k2.wtg _).Ju (hf.app (w':=(w.JT.2.wtg w.JT.1).Ju) k5 rfl) ?_ (Or.inr k3) (fun h=>absurd h Wq5) rfl;show x=bif(cY w.branch s.flags).1 then _ else bif w.JT.1== -1 then _ else dT D R w.JT.2.code w.JT.1
  rw[hb,e3,k4];rfl
 have ew:w.one 40 nn (dK s 40)=(w.Js.2.wtg w.Js.1).Ju:=rfl;rw[ew]at n1 n2 g1 g2⊢;obtain⟨l,x,k1,k2,k3,k4,e,k5⟩:=pd h Wq1 n1;have h11:=mQ k1;have e0:eN s 40=(eN s 40).wd (l++[x]):=congrArg (fun t=>(eN s 40).wd t) k1;have e1:(eN s 40).top=x:=(congrArg Run.top e0).trans (Run.top_wd _ _ _);have e2:(eN s 40).pop=(eN s 40).wd l:=(congrArg Run.pop e0).trans (Run.pop_wd _ _ _);have em:wD s 40 nn=((eN s 40).wd l).wpc x:=by
  have:wD s 40 nn=(eN s 40).pop.wpc (eN s 40).top:=rfl;rw[this,e1,e2]
 have e3:(w.Js.1== -1)=false:=by have:=k3.1;simp;omega
 refine mj (R':=((eN s 40).wd l).wpc x) hs hp ho em rfl rfl (show 1≤s.d.length by omega) (au _) (show s.d.length+0≤16+1 by omega) q2 (k2.wtg _).Ju (hf.app (w':=(w.Js.2.wtg w.Js.1).Ju) k5 rfl) ?_ (Or.inr k3) (fun h=>absurd h Wq5) rfl;show x=bif(cY w.branch s.flags).1 then _ else bif w.Js.1== -1 then _ else dT D R w.Js.2.code w.Js.1
 rw[hb,e3,k4];rfl
end
structure fC(w w':Lw):Prop where
 nd:w.d.Jp≤w'.d.Jp
 nr:w.r.Jp≤w'.r.Jp
 hd:w.d.high≤w'.d.high
 hr:w.r.high≤w'.r.high
theorem fC.trans{a b c:Lw}(h:fC a b)(k:fC b c):fC a c:=⟨Int.le_trans h.nd k.nd,Int.le_trans h.nr k.nr,Int.le_trans h.hd k.hd,Int.le_trans h.hr k.hr⟩
theorem fC.refl(w:Lw):fC w w:=⟨Int.le_refl _,Int.le_refl _,Int.le_refl _,Int.le_refl _⟩
theorem mK(k:Int)(c:List II)(s:Sd):s.Jp≤(eL k c s).2.2.Jp∧(eL k c s).2.2.high=s.high:=by
 unfold eL;cases s.l.getLast? with
 |some n=>exact⟨Int.le_refl _,rfl⟩
 |none=>exact⟨by show s.Jp≤s.Jp+1;omega,rfl⟩
theorem dA(w:Lw):fC w w.Js.2:=⟨(mK 1 w.code w.d).1,Int.le_refl _,Int.le_of_eq (mK 1 w.code w.d).2.symm,Int.le_refl _⟩
theorem ip(w:Lw):fC w w.JT.2:=⟨Int.le_refl _,(mK 2 w.code w.r).1,Int.le_refl _,Int.le_of_eq (mK 2 w.code w.r).2.symm⟩
theorem CY(w:Lw):fC w w.Ju:=⟨Int.le_refl _,Int.le_refl _,Int.le_max_left _ _,Int.le_max_left _ _⟩
theorem wy{op:Int}(hp:dx op=true)(w:Lw)(n nx:Int):fC w (w.one op n nx):=by
 refine fC.trans ?_ (CY _);have hs:fC w w.Js.2.Js.2:=(dA w).trans (dA w.Js.2);rcases oo hp with rfl|rfl|rfl|rfl|rfl|rfl|rfl|rfl|rfl|hr|hr|rfl|hr|rfl|rfl|rfl
 ·exact⟨(fC.refl w).nd,(fC.refl w).nr,(fC.refl w).hd,(fC.refl w).hr⟩
 ·exact⟨(fC.refl w).nd,(fC.refl w).nr,(fC.refl w).hd,(fC.refl w).hr⟩
 ·exact⟨(fC.refl w).nd,(fC.refl w).nr,(fC.refl w).hd,(fC.refl w).hr⟩
 ·exact⟨(dA w).nd,(dA w).nr,(dA w).hd,(dA w).hr⟩
 ·exact⟨(dA w).nd,(dA w).nr,(dA w).hd,(dA w).hr⟩
 ·exact⟨(hs).nd,(hs).nr,(hs).hd,(hs).hr⟩
 ·exact⟨(hs).nd,(hs).nr,(hs).hd,(hs).hr⟩
 ·exact⟨(dA w).nd,(dA w).nr,(dA w).hd,(dA w).hr⟩
 ·exact⟨(ip w).nd,(ip w).nr,(ip w).hd,(ip w).hr⟩
 ·rw[kF (Or.inl hr)];unfold Lw.reckon;rw[show(op !=25)=true by simp;omega];exact⟨(hs).nd,(hs).nr,(hs).hd,(hs).hr⟩
 ·rw[kF (Or.inr hr)];subst hr;exact⟨(hs).nd,(hs).nr,(hs).hd,(hs).hr⟩
 ·exact⟨(fC.refl w).nd,(fC.refl w).nr,(fC.refl w).hd,(fC.refl w).hr⟩
 ·have h5:op=33∨op=34∨op=35∨op=36∨op=37:=by omega
  rcases h5 with rfl|rfl|rfl|rfl|rfl<;>exact⟨(fC.refl w).nd,(fC.refl w).nr,(fC.refl w).hd,(fC.refl w).hr⟩
 ·exact⟨(fC.refl w).nd,(fC.refl w).nr,(fC.refl w).hd,(fC.refl w).hr⟩
 ·exact⟨(ip w).nd,(ip w).nr,(ip w).hd,(ip w).hr⟩
 exact⟨(dA w).nd,(dA w).nr,(dA w).hd,(dA w).hr⟩
theorem pj{a:Nat}(ha:a<18446744073709551616):(BitVec.ofInt IntKind.u64.bits (a:Int)).toNat=a:=by rw[BitVec.toNat_ofInt];show((a:Int)%((18446744073709551616:Nat):Int)).toNat=a;omega
theorem pk{a:Nat}(ha:a<4294967296):(BitVec.ofInt IntKind.u32.bits (a:Int)).toNat=a:=by rw[BitVec.toNat_ofInt];show((a:Int)%((4294967296:Nat):Int)).toNat=a;omega
theorem FB{a b:Nat}(ha:a<18446744073709551616)(hb:b<18446744073709551616):bits .and .u64 (a:Int) (b:Int)=((a&&&b:Nat):Int):=by
  have h3:a&&&b≤a:=Nat.and_le_left;unfold bits;simp only;rw[aU,BitVec.toNat_and,pj ha,pj hb];omega
theorem or64{a b:Nat}(ha:a<18446744073709551616)(hb:b<18446744073709551616):bits .or .u64 (a:Int) (b:Int)=((a|||b:Nat):Int):=by
  have h3:a|||b<2^64:=Nat.or_lt_two_pow ha hb
  unfold bits;simp only;rw[aU,BitVec.toNat_or,pj ha,pj hb];omega
theorem AP{a b:Nat}(ha:a<18446744073709551616)(hb:b<18446744073709551616):bits .xor .u64 (a:Int) (b:Int)=((a^^^b:Nat):Int):=by
  have h3:a^^^b<2^64:=Nat.xor_lt_two_pow ha hb;unfold bits;simp only;rw[aU,BitVec.toNat_xor,pj ha,pj hb];omega
theorem FC{a b:Nat}(ha:a<4294967296)(hb:b<4294967296):bits .and .u32 (a:Int) (b:Int)=((a&&&b:Nat):Int):=by
  have h3:a&&&b≤a:=Nat.and_le_left;unfold bits;simp only;rw[aE,BitVec.toNat_and,pk ha,pk hb];omega
theorem or32{a b:Nat}(ha:a<4294967296)(hb:b<4294967296):bits .or .u32 (a:Int) (b:Int)=((a|||b:Nat):Int):=by
  have h3:a|||b<2^32:=Nat.or_lt_two_pow ha hb
  unfold bits;simp only;rw[aE,BitVec.toNat_or,pk ha,pk hb];omega
theorem AQ{a b:Nat}(ha:a<4294967296)(hb:b<4294967296):bits .xor .u32 (a:Int) (b:Int)=((a^^^b:Nat):Int):=by
  have h3:a^^^b<2^32:=Nat.xor_lt_two_pow ha hb;unfold bits;simp only;rw[aE,BitVec.toNat_xor,pk ha,pk hb];omega
theorem low64(z:Int):bits .and .u64 (IntKind.u64.wrap z) 4294967295=IntKind.u32.wrap z:=by
  obtain⟨n,hn⟩:∃n:Nat,IntKind.u64.wrap z=n:=aq (by rw[aU];omega);have h1:n<18446744073709551616:=by rw[aU]at hn;omega
  rw[hn,show(4294967295:Int)=((4294967295:Nat):Int)from rfl,FB h1 Wq5,show(4294967295:Nat)=2^32 - 1 from rfl,Nat.and_two_pow_sub_one_eq_mod];rw[aU]at hn;rw[aE];omega
theorem iy{a b:Nat}(ha:a<4294967296)(hb:b<4294967296):a^^^b<4294967296:=Nat.xor_lt_two_pow (n:=32) ha hb
theorem qA{a b:Nat}(ha:a<4294967296):a&&&b<4294967296:=Nat.lt_of_le_of_lt Nat.and_le_left ha
theorem top32{a:Nat}(ha:a<4294967296):(bits .and .u32 (a:Int) 2147483648 !=0)=decide (2147483648≤a):=by
  have h1:=FC ha (show 2147483648<4294967296 by decide);rw[show((2147483648:Nat):Int)=2147483648 from rfl]at h1;rw[h1];have h2:a&&&2147483648=if 2147483648≤a then 2147483648 else 0:=by
    apply Nat.eq_of_testBit_eq;intro i;rw[show(2147483648:Nat)=2^31 from rfl,Nat.testBit_and,Nat.testBit_two_pow];by_cases e:31=i
    · subst e
      rw[Nat.testBit_eq_decide_div_mod_eq];by_cases h:2^31≤a
      · rw[if_pos h,Nat.testBit_two_pow,ay (show a/2^31%2=1 by omega)];rfl
      rw[if_neg h,az (show¬a/2^31%2=1 by omega)];rfl
    rw[az e,Bool.and_false];split
    · rw[Nat.testBit_two_pow,az e]
    rw[Nat.zero_testBit]
  rw[h2];by_cases h:2147483648≤a
  · rw[if_pos h,ay h];rfl
  rw[if_neg h,az h];rfl
theorem shr31{a:Nat}(ha:a<4294967296):(a:Int).fdiv (2^(min (Int.toNat 31) IntKind.u64.bits))=b2i (decide (2147483648≤a)):=by
  show(a:Int).fdiv 2147483648=_;by_cases h:2147483648≤a
  · rw[ay h];show(a:Int).fdiv 2147483648=1;rw[Int.fdiv_eq_ediv_of_nonneg _ Wq5];omega
  rw[az h];show(a:Int).fdiv 2147483648=0;rw[Int.fdiv_eq_ediv_of_nonneg _ Wq5];omega
structure HI where
  op:Int
  rd:Int
  ra:Int
  rb:Int
  imm:Int
def HI.zero:HI:=⟨0,0,0,0,0⟩
structure HM where
  JI:List Int
  words:List Int
  pc:Int
def eI(op a b:Int):Int:=
  bif op==2 then a else bif op==3 then IntKind.u64.wrap (a+b)else bif op==4 then IntKind.u64.wrap (a - b)else bif op==5 then bits .and .u64 a b else bif op==6 then bits .or .u64 a b else bif op==7 then bits .xor .u64 a b else
  bif op==8 then IntKind.u64.wrap (a*2^(min b.toNat IntKind.u64.bits))else bif op==9 then a.fdiv (2^(min b.toNat IntKind.u64.bits))else bif op==10 then IntKind.u64.wrap (a*b)else
  bif op==11 then(bif b==0 then 0 else IntKind.u64.wrap (a.tdiv b))else bif op==12 then b2i (decide (a<b))else b2i (a==b)
abbrev rg(R:List Int)(k:Int):Int:=R.getD k.toNat 0
def oC(R:List Int)(i:HI):Int:=IntKind.u64.wrap (rg R i.ra+i.imm)
def hdo(i:HI)(m:HM):Int×HM:=
  bif i.op==0 then(0,⟨m.JI,m.words,m.pc+1⟩)else
  bif i.op==1 then(0,⟨m.JI.set i.rd.toNat i.imm,m.words,m.pc+1⟩)else
  bif i.op==14||i.op==15 then
    (bif decide ((m.words.length:Int)≤oC m.JI i)then(4,m)else
     bif i.op==14 then(0,⟨m.JI.set i.rd.toNat (m.words.getD (oC m.JI i).toNat 0),m.words,m.pc+1⟩)
     else(0,⟨m.JI,m.words.set (oC m.JI i).toNat (IntKind.u32.wrap (rg m.JI i.rb)),m.pc+1⟩))else
  bif i.op==16||i.op==17 then(0,⟨m.JI,m.words,bif(rg m.JI i.ra==0)==(i.op==16)then i.imm else m.pc+1⟩)else
  bif i.op==18 then(0,⟨m.JI,m.words,i.imm⟩)else
  bif i.op==19 then(1,m)else(0,⟨m.JI.set i.rd.toNat (eI i.op (rg m.JI i.ra) (rg m.JI i.rb)),m.words,m.pc+1⟩)
def Jy(C:List HI)(m:HM):Int×HM:=
  bif decide (m.pc<0)||decide ((C.length:Int)≤m.pc)then(2,m)else hdo (C.getD m.pc.toNat HI.zero) m
def jo(C:List HI):Nat→HM→(Int×Int)×HM
  |0,m=>((5,0),m)
  |f+1,m=>bif(Jy C m).1==0 then jo C f (Jy C m).2 else bif(Jy C m).1==1 then((1,(C.getD (Jy C m).2.pc.toNat HI.zero).imm),(Jy C m).2)else(((Jy C m).1,0),(Jy C m).2)
structure HGo(C:List HI)(k:Nat)(l:List HI)(R W:List Int)(M:HM):Prop where
  at_:C.drop k=l
  rl:R.length=16
  wl:W.length=256
  ends:∃f,jo C f ⟨R,W,(k:Int)⟩=((1,1),M)
section
variable {C l:List HI} {k:Nat} {R W:List Int} {M:HM} {i:HI}
theorem HGo.code(h:HGo C k (i::l) R W M):k<C.length∧C.getD k HI.zero=i∧C.drop (k+1)=l:=by
  have h1:=h.at_;have h2:k<C.length:=by
    by_cases hk:k<C.length
    · exact hk
    rw[List.drop_eq_nil_of_le Wq1]at h1;cases h1
  rw[List.drop_eq_getElem_cons h2]at h1;injection h1 with h3 h4
  exact⟨h2,by rw[aw,ai h2,h3];rfl,h4⟩
theorem HGo.Jy(h:HGo C k (i::l) R W M):Jy C ⟨R,W,(k:Int)⟩=hdo i ⟨R,W,(k:Int)⟩:=by
  obtain⟨h1,h2,h3⟩:=h.code;unfold Ink.Jy;rw[show decide ((k:Int)<0)=false from az Wq1,show decide ((C.length:Int)≤(k:Int))=false from az Wq1];show hdo (C.getD ((k:Int)).toNat HI.zero) _=_;rw[aO,h2]
theorem HGo.on{R' W':List Int}{j:Nat}{l':List HI}(h:HGo C k (i::l) R W M)(hd:hdo i ⟨R,W,(k:Int)⟩=(0,⟨R',W',(j:Int)⟩))(hr:R'.length=16)(hw:W'.length=256)(hl:C.drop j=l'):HGo C j l' R' W' M:=by
  refine⟨hl,hr,hw,?_⟩;obtain⟨f,hf⟩:=h.ends;cases f with
  |zero=>cases hf
  |succ f=>
    refine⟨f,?_⟩;unfold jo at hf;rw[h.Jy,hd]at hf;exact hf
theorem HGo.exit{imm:Int}(h:HGo C k (⟨19,0,0,0,imm⟩::l) R W M):imm=1∧M=⟨R,W,(k:Int)⟩:=by
  obtain⟨f,hf⟩:=h.ends;cases f with
  |zero=>cases hf
  |succ f=>
    unfold jo at hf;rw[h.Jy]at hf;have e:hdo ⟨19,0,0,0,imm⟩ ⟨R,W,(k:Int)⟩=(1,⟨R,W,(k:Int)⟩):=rfl;rw[e]at hf;dsimp only at hf;rw[show((1:Int)==0)=false from rfl,show((1:Int)==1)=true from rfl,aa,ac]at hf;have h2:(((1:Int),(C.getD ((k:Int)).toNat HI.zero).imm),(⟨R,W,(k:Int)⟩:HM))=(((1:Int),(1:Int)),M):=hf;rw[aO,h.code.2.1]at h2;injection h2 with h3 h4
    injection h3 with h5 h6
    exact⟨h6,h4.symm⟩
theorem cR{R:List Int}{j:Nat}{v:Int}(hj:j<R.length):(R.set j v).getD j 0=v:=by
  rw[aw,List.getElem?_set_self hj];rfl
theorem cA{R:List Int}{i j:Nat}{v:Int}(h:i≠j):(R.set i v).getD j 0=R.getD j 0:=by
  rw[aw,bo h,←aw]
def jZ(except:List Nat)(R R':List Int):Prop:=∀j,j∉except→R'.getD j 0=R.getD j 0
theorem jZ.refl(e:List Nat)(R:List Int):jZ e R R:=fun _ _=>rfl
theorem jZ.trans{e e':List Nat}{A B D:List Int}(h:jZ e A B)(h':jZ e' B D){e2:List Nat}(hs:∀x,x∈e∨x∈e'→x∈e2):jZ e2 A D:=fun j hj=>(h' j fun hx=>hj (hs j (Or.inr hx))).trans (h j fun hx=>hj (hs j (Or.inl hx)))
theorem jZ.set(R:List Int)(j:Nat)(v:Int){e:List Nat}(hj:j∈e):jZ e R (R.set j v):=fun i hi=>cA (fun h=>hi (h▸hj))
theorem HGo.li{rd:Nat}{v:Int}(h:HGo C k (⟨1,(rd:Int),0,0,v⟩::l) R W M):HGo C (k+1) l (R.set rd v) W M:=
  h.on rfl (by rw[aG,h.rl]) h.wl h.code.2.2
theorem HGo.op{op:Int}{rd ra rb:Nat}{v:Int}(h:HGo C k (⟨op,(rd:Int),(ra:Int),(rb:Int),0⟩::l) R W M)(h2:2≤op)(h13:op≤13)(hv:eI op (R.getD ra 0) (R.getD rb 0)=v):HGo C (k+1) l (R.set rd v) W M:=by
  refine h.on ?_ (by rw[aG,h.rl]) h.wl h.code.2.2;unfold hdo;show(bif op==0 then _ else bif op==1 then _ else bif op==14||op==15 then _ else bif op==16||op==17 then _ else bif op==18 then _ else bif op==19 then _ else _)=_;rw[show(op==0)=false by simp;omega,show(op==1)=false by simp;omega,show(op==14)=false by simp;omega,show(op==15)=false by simp;omega,show(op==16)=false by simp;omega,show(op==17)=false by simp;omega,show(op==18)=false by simp;omega,show(op==19)=false by simp;omega];show(0,(⟨R.set ((rd:Int)).toNat (eI op (R.getD ((ra:Int)).toNat 0) (R.getD ((rb:Int)).toNat 0)),W,(k:Int)+1⟩:HM))=_;rw[aO,aO,aO,hv]
  rfl
theorem HGo.mov{rd ra:Nat}(h:HGo C k (⟨2,(rd:Int),(ra:Int),0,0⟩::l) R W M):HGo C (k+1) l (R.set rd (R.getD ra 0)) W M:=
  HGo.op (rb:=0) h Wq5 Wq5 rfl
theorem HGo.ld{rd ra p:Nat}{im:Int}(h:HGo C k (⟨14,(rd:Int),(ra:Int),0,im⟩::l) R W M)(hp:IntKind.u64.wrap (R.getD ra 0+im)=(p:Int))(hp2:p<256):HGo C (k+1) l (R.set rd (W.getD p 0)) W M:=by
  refine h.on ?_ (by rw[aG,h.rl]) h.wl h.code.2.2;have e:oC R ⟨14,(rd:Int),(ra:Int),0,im⟩=(p:Int):=hp;unfold hdo;dsimp only;rw[e,show decide ((W.length:Int)≤(p:Int))=false from az (by rw[h.wl];omega)]
  rfl
theorem HGo.st{ra rb p:Nat}{im v:Int}(h:HGo C k (⟨15,0,(ra:Int),(rb:Int),im⟩::l) R W M)(hp:IntKind.u64.wrap (R.getD ra 0+im)=(p:Int))(hp2:p<256)(hv:IntKind.u32.wrap (R.getD rb 0)=v):HGo C (k+1) l R (W.set p v) M:=by
  refine h.on ?_ h.rl (by rw[aG,h.wl]) h.code.2.2;have e:oC R ⟨15,0,(ra:Int),(rb:Int),im⟩=(p:Int):=hp;unfold hdo;dsimp only;rw[e,show decide ((W.length:Int)≤(p:Int))=false from az (by rw[h.wl];omega)];subst hv
  rfl
theorem HGo.bnez{ra j:Nat}{l':List HI}(h:HGo C k (⟨17,0,(ra:Int),0,(j:Int)⟩::l) R W M)(hl:C.drop j=l'):R.getD ra 0=0∧HGo C (k+1) l R W M∨R.getD ra 0≠0∧HGo C j l' R W M:=by
  by_cases h0:R.getD ra 0=0
  · refine Or.inl ⟨h0,h.on ?_ h.rl h.wl h.code.2.2⟩
    show(0,(⟨R,W,bif(R.getD ((ra:Int)).toNat 0==0)==false then(j:Int)else(k:Int)+1⟩:HM))=_;rw[aO,h0];rfl
  refine Or.inr ⟨h0,h.on ?_ h.rl h.wl hl⟩;show(0,(⟨R,W,bif(R.getD ((ra:Int)).toNat 0==0)==false then(j:Int)else(k:Int)+1⟩:HM))=_;rw[aO,show(R.getD ra 0==0)=false by simp;simpa using h0];rfl
theorem HGo.beqz{ra j:Nat}{l':List HI}(h:HGo C k (⟨16,0,(ra:Int),0,(j:Int)⟩::l) R W M)(hl:C.drop j=l'):R.getD ra 0≠0∧HGo C (k+1) l R W M∨R.getD ra 0=0∧HGo C j l' R W M:=by
  by_cases h0:R.getD ra 0=0
  · refine Or.inr ⟨h0,h.on ?_ h.rl h.wl hl⟩
    show(0,(⟨R,W,bif(R.getD ((ra:Int)).toNat 0==0)==true then(j:Int)else(k:Int)+1⟩:HM))=_;rw[aO,h0];rfl
  refine Or.inl ⟨h0,h.on ?_ h.rl h.wl h.code.2.2⟩;show(0,(⟨R,W,bif(R.getD ((ra:Int)).toNat 0==0)==true then(j:Int)else(k:Int)+1⟩:HM))=_;rw[aO,show(R.getD ra 0==0)=false by simp;simpa using h0];rfl
end
def ka(op:Int):Int:=bif op==16 then 3 else bif op==18 then 5 else bif op==19 then 6 else bif op==20 then 7 else bif op==21 then 8 else bif op==22 then 9 else bif op==23 then 10 else 4
def I0(r:Int):List HI:=[⟨1,12,0,0,4294967295⟩,⟨5,r,r,12,0⟩]
def uY(op:Int):Bool:=op==18||op==19||op==20||op==22
def ul(op rd a b:Int):List HI:=⟨ka op,rd,a,b,0⟩::(bif uY op then[]else I0 rd)
def sD(r up:Int):List HI:=[⟨1,12,0,0,up⟩,⟨8,r,r,12,0⟩,⟨6,10,10,r,0⟩]
def gN(rd r:Int):List HI:=[⟨1,12,0,0,31⟩,⟨9,rd,r,12,0⟩]
def gv:List HI:=⟨5,11,11,12,0⟩::(gN 11 11++sD 11 3)
def fW(op a b:Int):List HI:=ul op 9 a b++(⟨13,10,9,15,0⟩::(gN 11 9++sD 11 1))
def jT(a b:Int):List HI:=⟨12,11,9,a,0⟩::(sD 11 2++(⟨7,11,a,9,0⟩::⟨7,12,b,9,0⟩::gv))
def jS(a b:Int):List HI:=⟨12,11,a,b,0⟩::(sD 11 2++(⟨7,11,a,b,0⟩::⟨7,12,a,9,0⟩::gv))
def lb(op a b:Int):List HI:=fW op a b++(bif op==16 then jT a b else bif op==17||op==25 then jS a b else[])
def sE(op x y:Int):Int:=bif op==25 then IntKind.u32.wrap (x - y)else(iu op x y).1
section
variable {C l:List HI} {k:Nat} {R W:List Int} {M:HM}
theorem HGo.low{rd:Nat}{z:Int}(h:HGo C k (I0 rd++l) R W M)(hz:R.getD rd 0=IntKind.u64.wrap z)(hr:rd<12):∃k' R',HGo C k' l R' W M∧R'.getD rd 0=IntKind.u32.wrap z∧jZ [rd,12] R R':=by
 have h1:=HGo.li (rd:=12) h;have hl:=h1.rl;have e1:(R.set 12 4294967295).getD rd 0=IntKind.u64.wrap z:=by rw[cA Wq1,hz]
 have e2:(R.set 12 4294967295).getD 12 0=4294967295:=cR (by rw[h.rl];decide);have h2:=HGo.op (rd:=rd) (ra:=rd) (rb:=12) (v:=IntKind.u32.wrap z) h1 Wq5 Wq5 (by rw[e1,e2];exact low64 z);refine⟨_,_,h2,cR (by rw[hl];omega),?_⟩;exact(jZ.set R 12 _ (e:=[rd,12]) cJ).trans (jZ.set _ rd _ (e:=[rd,12]) cJ) (by intro x hx;simpa using hx)
theorem qB{op:Int}{x y:Nat}(hop:(16≤op∧op≤23)∨op=25)(hx:x<4294967296)(hy:y<4294967296):∃r:Nat,sE op x y=r∧r<4294967296:=by
 have hw:∀z:Int,∃r:Nat,IntKind.u32.wrap z=r∧r<4294967296:=fun z=>by
  rw[aE];exact⟨(z%4294967296).toNat,by omega,by omega⟩
 have h:op=16∨op=17∨op=18∨op=19∨op=20∨op=21∨op=22∨op=23∨op=25:=by omega
 rcases h with rfl|rfl|rfl|rfl|rfl|rfl|rfl|rfl|rfl
 ·exact hw _
 ·exact hw _
 ·exact⟨x&&&y,FC hx hy,qA hx⟩
 ·exact⟨x|||y,or32 hx hy,Nat.or_lt_two_pow (n:=32) hx hy⟩
 ·exact⟨x^^^y,AQ hx hy,iy hx hy⟩
 ·show∃r:Nat,gQ (x:Int) (y:Int) true=r∧_;unfold gQ;cases decide (32≤(y:Int))with
  |true=>exact⟨0,rfl,by decide⟩
  |false=>exact hw _
 ·show∃r:Nat,gQ (x:Int) (y:Int) false=r∧_;unfold gQ;cases decide (32≤(y:Int))with
  |true=>exact⟨0,rfl,by decide⟩
  |false=>
   refine⟨x/2^(min y IntKind.u32.bits),?_,Nat.lt_of_le_of_lt (Nat.div_le_self _ _) hx⟩;show(x:Int).fdiv (2^(min ((y:Int)).toNat IntKind.u32.bits))=_;rw[aO,Int.fdiv_eq_ediv_of_nonneg _ (by exact Int.le_of_lt (Int.pow_pos Wq5))];simp
 ·exact hw _
 exact hw _
theorem shl64{x y:Nat}:IntKind.u32.wrap ((x:Int)*2^(min ((y:Int)).toNat IntKind.u64.bits))=gQ (x:Int) (y:Int) true:=by
 unfold gQ;rw[aO];by_cases h:32≤y
 ·rw[ay (show 32≤(y:Int) by omega)];show _=(0:Int);obtain⟨m,hm⟩:∃m,min y IntKind.u64.bits=32+m:=⟨min y IntKind.u64.bits - 32,by show min y 64=32+(min y 64 - 32);omega⟩;rw[hm,Int.pow_add,←Int.mul_assoc,Int.mul_comm (x:Int),Int.mul_assoc,aE];exact Int.mul_emod_right _ _
 rw[az (show¬32≤(y:Int) by omega)];show _=IntKind.u32.wrap ((x:Int)*2^(min y IntKind.u32.bits));rw[show min y IntKind.u64.bits=y by show min y 64=y;omega,show min y IntKind.u32.bits=y by show min y 32=y;omega]
theorem shr64{x y:Nat}(hx:x<4294967296):(x:Int).fdiv (2^(min ((y:Int)).toNat IntKind.u64.bits))=gQ (x:Int) (y:Int) false:=by
 unfold gQ;rw[aO];by_cases h:32≤y
 ·rw[ay (show 32≤(y:Int) by omega)];show _=(0:Int);obtain⟨m,hm⟩:∃m,min y IntKind.u64.bits=32+m:=⟨min y IntKind.u64.bits - 32,by show min y 64=32+(min y 64 - 32);omega⟩;rw[hm,Int.fdiv_eq_ediv_of_nonneg _ (by exact Int.le_of_lt (Int.pow_pos Wq5))];refine Int.ediv_eq_zero_of_lt Wq1 ?_;have h1:(2:Nat)^32≤2^(32+m):=Nat.pow_le_pow_right Wq5 Wq1;have h2:((2:Nat)^(32+m):Nat)=((2:Int)^(32+m)):=by simp
  rw[←h2];have:(4294967296:Nat)≤2^(32+m):=h1;omega
 rw[az (show¬32≤(y:Int) by omega)];show _=(x:Int).fdiv (2^(min y IntKind.u32.bits));rw[show min y IntKind.u64.bits=y by show min y 64=y;omega,show min y IntKind.u32.bits=y by show min y 32=y;omega]
theorem HGo.alu{op:Int}{rd ra rb x y:Nat}(hop:(16≤op∧op≤23)∨op=25)(h:HGo C k (ul op rd ra rb++l) R W M)(hrd:rd<12)(hx:R.getD ra 0=x)(hy:R.getD rb 0=y)(hx2:x<4294967296)(hy2:y<4294967296):
  ∃k' R',HGo C k' l R' W M∧R'.getD rd 0=sE op x y∧jZ [rd,12] R R':=by
 have hl:=h.rl;have hlow:∀(o:Int) (z:Int),2≤o→o≤13→HGo C k (⟨o,(rd:Int),(ra:Int),(rb:Int),0⟩::(I0 rd++l)) R W M→eI o x y=IntKind.u64.wrap z→
   ∃k' R',HGo C k' l R' W M∧R'.getD rd 0=IntKind.u32.wrap z∧jZ [rd,12] R R':=fun o z h1 h2 g hz=>by
  have g1:=HGo.op g h1 h2 (v:=IntKind.u64.wrap z) (by rw[hx,hy,hz]);obtain⟨k',R',g2,g3,g4⟩:=g1.low (cR Wq1) hrd;exact⟨k',R',g2,g3,(jZ.set R rd _ (e:=[rd,12]) cJ).trans g4 (by intro x hx;simpa using hx)⟩
 have hno:∀(o z:Int),2≤o→o≤13→HGo C k (⟨o,(rd:Int),(ra:Int),(rb:Int),0⟩::l) R W M→eI o x y=z→∃k' R',HGo C k' l R' W M∧R'.getD rd 0=z∧jZ [rd,12] R R':=fun o z h1 h2 g hz=>
  ⟨_,_,HGo.op g h1 h2 (v:=z) (by rw[hx,hy,hz]),cR Wq1,jZ.set R rd _ cJ⟩
 have h8:op=16∨op=17∨op=18∨op=19∨op=20∨op=21∨op=22∨op=23∨op=25:=by omega
 rcases h8 with rfl|rfl|rfl|rfl|rfl|rfl|rfl|rfl|rfl
 ·exact hlow 3 _ Wq5 Wq5 h rfl
 ·exact hlow 4 _ Wq5 Wq5 h rfl
 ·exact hno 5 _ Wq5 Wq5 h (show bits .and .u64 (x:Int) (y:Int)=bits .and .u32 (x:Int) (y:Int) by rw[FB Wq1 Wq1,FC hx2 hy2])
 ·exact hno 6 _ Wq5 Wq5 h (show bits .or .u64 (x:Int) (y:Int)=bits .or .u32 (x:Int) (y:Int) by rw[or64 Wq1 Wq1,or32 hx2 hy2])
 ·exact hno 7 _ Wq5 Wq5 h (show bits .xor .u64 (x:Int) (y:Int)=bits .xor .u32 (x:Int) (y:Int) by rw[AP Wq1 Wq1,AQ hx2 hy2])
 ·obtain⟨k',R',g1,g2,g3⟩:=hlow 8 _ Wq5 Wq5 h rfl;exact⟨k',R',g1,g2.trans shl64,g3⟩
 ·exact hno 9 _ Wq5 Wq5 h (shr64 hx2)
 ·exact hlow 10 _ Wq5 Wq5 h rfl
 exact hlow 4 _ Wq5 Wq5 h rfl
theorem AD:∀(a b c d:Bool),bits .or .u64 (b2i a) (IntKind.u64.wrap (b2i b*2^(min (Int.toNat 1) IntKind.u64.bits)))=b2i a+2*b2i b∧bits .or .u64 (b2i a+2*b2i b) (IntKind.u64.wrap (b2i c*2^(min (Int.toNat 2) IntKind.u64.bits)))=b2i a+2*b2i b+4*b2i c∧
  bits .or .u64 (b2i a+2*b2i b+4*b2i c) (IntKind.u64.wrap (b2i d*2^(min (Int.toNat 3) IntKind.u64.bits)))=b2i a+2*b2i b+4*b2i c+8*b2i d:=by decide+kernel
theorem HGo.bit{up s c s':Int}(h:HGo C k (sD 11 up++l) R W M)(hs:R.getD 10 0=s)(hc:R.getD 11 0=c)(h':bits .or .u64 s (IntKind.u64.wrap (c*2^(min up.toNat IntKind.u64.bits)))=s'):
  ∃k' R',HGo C k' l R' W M∧R'.getD 10 0=s'∧jZ [10,11,12] R R':=by
 have hl:=h.rl;have h1:=HGo.li (rd:=12) h;have h2:=HGo.op (rd:=11) (ra:=11) (rb:=12) (v:=IntKind.u64.wrap (c*2^(min up.toNat IntKind.u64.bits))) h1 Wq5 Wq5 (by rw[cA Wq5,hc,cR Wq1];rfl);have h3:=HGo.op (rd:=10) (ra:=10) (rb:=11) (v:=s') h2 Wq5 Wq5 (by rw[cA Wq5,cA Wq5,hs,cR (by rw[aG];omega)];exact h');refine⟨_,_,h3,cR (by simp only[aG];omega),?_⟩;exact((jZ.set R 12 _ (e:=[10,11,12]) cJ).trans (jZ.set _ 11 _ (e:=[10,11,12]) cJ) (e2:=[10,11,12]) (by intro x hx;simpa using hx)).trans (jZ.set _ 10 _ (e:=[10,11,12]) cJ) (by intro x hx;simpa using hx)
theorem HGo.signed{rd r x:Nat}(h:HGo C k (gN rd r++l) R W M)(hrd:rd<12)(hr:r<12)(hx:R.getD r 0=x)(hx2:x<4294967296):∃k' R',HGo C k' l R' W M∧R'.getD rd 0=b2i (decide (2147483648≤x))∧jZ [rd,12] R R':=by
 have hl:=h.rl;have h1:=HGo.li (rd:=12) h;have h2:=HGo.op (rd:=rd) (ra:=r) (rb:=12) (v:=b2i (decide (2147483648≤x))) h1 Wq5 Wq5 (by rw[cA Wq1,hx,cR Wq1];exact shr31 hx2);refine⟨_,_,h2,cR (by rw[aG];omega),?_⟩;exact(jZ.set R 12 _ (e:=[rd,12]) cJ).trans (jZ.set _ rd _ (e:=[rd,12]) cJ) (by intro x hx;simpa using hx)
theorem iX{r:Nat}(hr:r<4294967296):dz (r:Int)=b2i ((r:Int)==0)+2*b2i (decide (2147483648≤r)):=by
 unfold dz;rw[top32 hr];cases(r:Int)==0<;>cases decide (2147483648≤r)<;>rfl
theorem rZ(a b r o:Int)(p q c:Bool):jf a b r (b2i p+2*b2i q) c o=b2i p+2*b2i q+4*b2i c+8*b2i (o !=0):=by
 unfold jf;cases o !=0<;>cases p<;>cases q<;>cases c<;>rfl
theorem HGo.flagB{op:Int}{ra rb x y:Nat}(hop:(16≤op∧op≤23)∨op=25)(h:HGo C k (fW op ra rb++l) R W M)(h15:R.getD 15 0=0)(hx:R.getD ra 0=x)(hy:R.getD rb 0=y)(hx2:x<4294967296)(hy2:y<4294967296):
  ∃k' R' r,HGo C k' l R' W M∧sE op x y=(r:Nat)∧r<4294967296∧R'.getD 9 0=(r:Int)∧R'.getD 10 0=b2i ((r:Int)==0)+2*b2i (decide (2147483648≤r))∧jZ [9,10,11,12] R R':=by
 obtain⟨r,hr,hr2⟩:=qB hop hx2 hy2;have h:HGo C k (ul op 9 ra rb++(⟨13,10,9,15,0⟩::(gN 11 9++(sD 11 1++l)))) R W M:=by
  have:fW op ra rb++l=ul op 9 ra rb++(⟨13,10,9,15,0⟩::(gN 11 9++(sD 11 1++l))):=by unfold fW;simp only[ap,aM]
  rwa[this]at h
 obtain⟨k1,R1,g1,g2,g3⟩:=HGo.alu (rd:=9) hop h Wq5 hx hy hx2 hy2;rw[hr]at g2;have g4:=HGo.op (rd:=10) (ra:=9) (rb:=15) (v:=b2i ((r:Int)==0)) g1 Wq5 Wq5 (by rw[g2,g3 15 Wq5,h15];rfl);obtain⟨k2,R2,p1,p2,p3⟩:=HGo.signed (rd:=11) (r:=9) (x:=r) g4 Wq5 Wq5 (by rw[cA Wq5,g2]) hr2;have e10:R2.getD 10 0=b2i ((r:Int)==0):=by rw[p3 10 Wq5,cR (by rw[g1.rl];decide)]
 obtain⟨k3,R3,q1,q2,q3⟩:=HGo.bit p1 e10 p2 (AD ((r:Int)==0) (decide (2147483648≤r)) false false).1;have e9:R3.getD 9 0=(r:Int):=by rw[q3 9 Wq5,p3 9 Wq5,cA Wq5,g2]
 refine⟨k3,R3,r,q1,hr,hr2,e9,q2,?_⟩;intro j hj;simp only[aK,aY,or_false,not_or]at hj;rw[q3 j (by simp;omega),p3 j (by simp;omega),cA Wq1,g3 j (by simp;omega)]
theorem HGo.flagE{p q c:Bool}{u v:Nat}(h:HGo C k (gv++l) R W M)(h10:R.getD 10 0=b2i p+2*b2i q+4*b2i c)(h11:R.getD 11 0=u)(h12:R.getD 12 0=v)(hu:u<4294967296)(hv:v<4294967296):
  ∃k' R',HGo C k' l R' W M∧R'.getD 10 0=b2i p+2*b2i q+4*b2i c+8*b2i (decide (2147483648≤u&&&v))∧jZ [10,11,12] R R':=by
 have g1:=HGo.op (rd:=11) (ra:=11) (rb:=12) (v:=((u&&&v:Nat):Int)) (l:=gN 11 11++(sD 11 3++l)) (by
  have:gv++l=⟨5,11,11,12,0⟩::(gN 11 11++(sD 11 3++l)):=by unfold gv;simp only[ap,aM]
  rw[this]at h;exact h) Wq5 Wq5 (by rw[h11,h12];exact FB Wq1 Wq1)
 obtain⟨k2,R2,p1,p2,p3⟩:=HGo.signed (rd:=11) (r:=11) (x:=u&&&v) g1 Wq5 Wq5 (cR (by rw[h.rl];decide)) (qA hu);obtain⟨k3,R3,q1,q2,q3⟩:=HGo.bit p1 (show R2.getD 10 0=_ by rw[p3 10 Wq5,cA Wq5,h10]) p2 (AD p q c (decide (2147483648≤u&&&v))).2.2;refine⟨k3,R3,q1,q2,?_⟩;intro j hj;simp only[aK,aY,or_false,not_or]at hj;rw[q3 j (by simp;omega),p3 j (by simp;omega),cA Wq1]
theorem HGo.flag{op:Int}{ra rb x y:Nat}(hop:(16≤op∧op≤23)∨op=25)(h:HGo C k (lb op ra rb++l) R W M)(ha:ra<9)(hb:rb<9)(h15:R.getD 15 0=0)(hx:R.getD ra 0=x)(hy:R.getD rb 0=y)(hx2:x<4294967296)(hy2:y<4294967296):
  ∃k' R',HGo C k' l R' W M∧R'.getD 10 0=(iu op x y).2.1∧jZ [9,10,11,12] R R':=by
 have h:HGo C k (fW op ra rb++((bif op==16 then jT ra rb else bif op==17||op==25 then jS ra rb else[])++l)) R W M:=by
  have:lb op ra rb++l=fW op ra rb++((bif op==16 then jT ra rb else bif op==17||op==25 then jS ra rb else[])++l):=by unfold lb;rw[ap]
  rwa[this]at h
 obtain⟨k1,R1,r,g1,g2,g3,g4,g5,g6⟩:=HGo.flagB hop h h15 hx hy hx2 hy2;have ex:R1.getD ra 0=x:=by rw[g6 ra (by simp;omega),hx]
 have ey:R1.getD rb 0=y:=by rw[g6 rb (by simp;omega),hy]
 have hsub:∀op',sE op' x y=(r:Nat)→sE op' x y=IntKind.u32.wrap ((x:Int) - y)→HGo C k1 (jS ra rb++l) R1 W M→∃k' R',HGo C k' l R' W M∧R'.getD 10 0=jU x y∧jZ [9,10,11,12] R R':=fun op' e1 e2 g=>by
  have g:HGo C k1 (⟨12,11,(ra:Int),(rb:Int),0⟩::(sD 11 2++(⟨7,11,(ra:Int),(rb:Int),0⟩::⟨7,12,(ra:Int),9,0⟩::(gv++l)))) R1 W M:=by
   have:jS ra rb++l=⟨12,11,(ra:Int),(rb:Int),0⟩::(sD 11 2++(⟨7,11,(ra:Int),(rb:Int),0⟩::⟨7,12,(ra:Int),9,0⟩::(gv++l))):=by unfold jS;simp only[ap,aM]
   rwa[this]at g
  have a1:=HGo.op (rd:=11) (ra:=ra) (rb:=rb) (v:=b2i (decide ((x:Int)<y))) g Wq5 Wq5 (by rw[ex,ey];rfl);obtain⟨k2,R2,b1,b2,b3⟩:=HGo.bit a1 (show(R1.set 11 _).getD 10 0=_ by rw[cA Wq5,g5]) (cR (by rw[g1.rl];decide)) (AD ((r:Int)==0) (decide (2147483648≤r)) (decide ((x:Int)<y)) false).2.1;have c1:=HGo.op (rd:=11) (ra:=ra) (rb:=rb) (v:=((x^^^y:Nat):Int)) b1 Wq5 Wq5 (by rw[b3 ra (by simp;omega),b3 rb (by simp;omega),cA Wq1,cA Wq1,ex,ey];exact AP Wq1 Wq1);have c2:=HGo.op (rd:=12) (ra:=ra) (rb:=9) (v:=((x^^^r:Nat):Int)) c1 Wq5 Wq5 (by rw[cA Wq1,cA Wq5,b3 ra (by simp;omega),b3 9 Wq5,cA Wq1,cA Wq5,ex,g4];exact AP Wq1 Wq1);obtain⟨k3,R3,d1,d2,d3⟩:=HGo.flagE (p:=(r:Int)==0) (q:=decide (2147483648≤r)) (c:=decide ((x:Int)<y)) c2 (by rw[cA Wq5,cA Wq5,b2]) (by rw[cA Wq5];exact cR (by rw[b1.rl];decide)) (cR (by rw[aG,b1.rl];decide)) (iy hx2 hy2) (iy hx2 g3);refine⟨k3,R3,d1,?_,?_⟩
  ·rw[d2];unfold jU;rw[←e2,e1,iX g3,rZ,AQ hx2 hy2,AQ hx2 g3,FC (iy hx2 hy2) (iy hx2 g3),top32 (qA (iy hx2 hy2))]
  intro j hj;simp only[aK,aY,or_false,not_or]at hj;rw[d3 j (by simp;omega),cA Wq1,cA Wq1,b3 j (by simp;omega),cA Wq1,g6 j (by simp;omega)]
 have hno:∀op',sE op' x y=(r:Nat)→HGo C k1 l R1 W M→(iu op' x y).2.1=dz (sE op' x y)→∃k' R',HGo C k' l R' W M∧R'.getD 10 0=(iu op' x y).2.1∧jZ [9,10,11,12] R R':=fun op' e1 g e2=>
  ⟨k1,R1,g,by rw[e2,e1,iX g3,g5],g6⟩
 have h8:op=16∨op=17∨op=18∨op=19∨op=20∨op=21∨op=22∨op=23∨op=25:=by omega
 rcases h8 with rfl|rfl|rfl|rfl|rfl|rfl|rfl|rfl|rfl
 ·have g:HGo C k1 (⟨12,11,9,(ra:Int),0⟩::(sD 11 2++(⟨7,11,(ra:Int),9,0⟩::⟨7,12,(rb:Int),9,0⟩::(gv++l)))) R1 W M:=by
   have:jT ra rb++l=⟨12,11,9,(ra:Int),0⟩::(sD 11 2++(⟨7,11,(ra:Int),9,0⟩::⟨7,12,(rb:Int),9,0⟩::(gv++l))):=by unfold jT;simp only[ap,aM]
   have g1:HGo C k1 (jT ra rb++l) R1 W M:=g1;rwa[this]at g1
  have a1:=HGo.op (rd:=11) (ra:=9) (rb:=ra) (v:=b2i (decide ((r:Int)<x))) g Wq5 Wq5 (by rw[ex,g4];rfl);obtain⟨k2,R2,b1,b2,b3⟩:=HGo.bit a1 (show(R1.set 11 _).getD 10 0=_ by rw[cA Wq5,g5]) (cR (by rw[g1.rl];decide)) (AD ((r:Int)==0) (decide (2147483648≤r)) (decide ((r:Int)<x)) false).2.1;have c1:=HGo.op (rd:=11) (ra:=ra) (rb:=9) (v:=((x^^^r:Nat):Int)) b1 Wq5 Wq5 (by rw[b3 ra (by simp;omega),b3 9 Wq5,cA Wq1,cA Wq5,ex,g4];exact AP Wq1 Wq1);have c2:=HGo.op (rd:=12) (ra:=rb) (rb:=9) (v:=((y^^^r:Nat):Int)) c1 Wq5 Wq5 (by rw[cA Wq1,cA Wq5,b3 rb (by simp;omega),b3 9 Wq5,cA Wq1,cA Wq5,ey,g4];exact AP Wq1 Wq1);obtain⟨k3,R3,d1,d2,d3⟩:=HGo.flagE (p:=(r:Int)==0) (q:=decide (2147483648≤r)) (c:=decide ((r:Int)<x)) c2 (by rw[cA Wq5,cA Wq5,b2]) (by rw[cA Wq5];exact cR (by rw[b1.rl];decide)) (cR (by rw[aG,b1.rl];decide)) (iy hx2 g3) (iy hy2 g3);refine⟨k3,R3,d1,?_,?_⟩
  ·rw[d2];show _=mi x y;unfold mi;have e2:IntKind.u32.wrap ((x:Int)+y)=(r:Int):=g2;rw[e2,iX g3,rZ,AQ hx2 g3,AQ hy2 g3,FC (iy hx2 g3) (iy hy2 g3),top32 (qA (iy hx2 g3))]
  intro j hj;simp only[aK,aY,or_false,not_or]at hj;rw[d3 j (by simp;omega),cA Wq1,cA Wq1,b3 j (by simp;omega),cA Wq1,g6 j (by simp;omega)]
 ·exact hsub 17 g2 rfl g1
 ·exact hno 18 g2 g1 rfl
 ·exact hno 19 g2 g1 rfl
 ·exact hno 20 g2 g1 rfl
 ·exact hno 21 g2 g1 rfl
 ·exact hno 22 g2 g1 rfl
 ·exact hno 23 g2 g1 rfl
 exact hsub 25 g2 rfl g1
end
structure Pg where
  code:List II
  Jn:Int
  Jo:Int
  JK:Int
  JN:Int
  Jw:List Int
  Jx:List Int
  flags:Int
  next:Int
  target:Int
  branch:Int
  taken:Int
  count:Int
  values:Int
structure Pl where
  reg:List Int
  slot:List Int
  JM:Int
abbrev Pl.r(pl:Pl)(n:Int):Int:=pl.reg.getD n.toNat 0
abbrev Pl.s(pl:Pl)(n:Int):Int:=pl.slot.getD n.toNat 0
def Pl.inR(pl:Pl)(n:Int):Bool:=decide (0≤pl.r n)
def jj(pl:Pl)(n into:Int):List HI:=bif pl.inR n then[]else[⟨14,into,15,0,IntKind.u32.wrap (64+pl.s n)⟩]
def dP(pl:Pl)(n into:Int):Int:=bif pl.inR n then pl.r n else into
def iT(pl:Pl)(n r:Int):List HI:=bif pl.inR n then[]else[⟨15,0,15,r,IntKind.u32.wrap (64+pl.s n)⟩]
def pi(Jn Jo:Int)(pl:Pl)(n:Int)(x:II):List HI:=
  (bif x.op==0 then[⟨1,dP pl n 9,0,0,x.imm⟩]else
   bif x.op==1 then[⟨14,dP pl n 9,14,0,IntKind.u32.wrap (4+Jn - 1 - x.imm)⟩]else
   bif x.op==2 then[⟨14,dP pl n 9,13,0,IntKind.u32.wrap (20+Jo - 1 - x.imm)⟩]else
   bif x.op==3 then jj pl x.a 7++(jj pl x.b 8++ul x.imm (dP pl n 9) (dP pl x.a 7) (dP pl x.b 8))else
   bif x.op==4 then jj pl x.a 7++(jj pl x.b 8++(lb x.imm (dP pl x.a 7) (dP pl x.b 8)++[⟨2,dP pl n 9,10,0,0⟩]))else[])++iT pl n (dP pl n 9)
def jy(Jn Jo:Int)(pl:Pl):List II→Nat→List HI
  |[],_=>[]
  |x::c,n=>pi Jn Jo pl n x++jy Jn Jo pl c (n+1)
def tH(pl:Pl)(base from_:Int):List Int→Nat→List HI
  |[],_=>[]
  |n::c,k=>jj pl n 7++(⟨15,0,base,dP pl n 7,IntKind.u32.wrap (from_+IntKind.u32.wrap k)⟩::tH pl base from_ c (k+1))
def gS(pl:Pl)(base from_ word:Int)(out:List Int):List HI:=tH pl base from_ out 0++[⟨1,11,0,0,IntKind.u32.wrap out.length⟩,⟨3,11,11,base,0⟩,⟨15,0,15,11,word⟩]
def nh(e base word Jp JF:Int):List HI:=[⟨14,base,15,0,word⟩,⟨1,11,0,0,IntKind.u32.wrap Jp⟩,⟨12,12,base,11,0⟩,⟨17,0,12,0,e⟩,⟨1,12,0,0,IntKind.u32.wrap JF⟩,⟨12,12,12,base,0⟩,⟨17,0,12,0,e⟩,⟨4,base,base,11,0⟩]
def fw(op:Int):Int:=bif op==33 then 1 else bif op==34 then 1 else bif op==35 then 4 else bif op==36 then 2 else 8
def gP(op:Int):Bool:=bif op==33 then true else bif op==34 then false else true
def gu(p:Pg)(pl:Pl):List HI:=bif decide (0≤p.flags)then⟨1,11,0,0,15⟩::(jj pl p.flags 7++[⟨5,11,11,dP pl p.flags 7,0⟩,⟨15,0,15,11,1⟩])else[]
def ge(p:Pg)(pos:Nat):List HI:=bif p.branch !=0 then[⟨14,11,15,0,1⟩,⟨1,12,0,0,fw p.branch⟩,⟨5,11,11,12,0⟩,⟨bif gP p.branch then 16 else 17,0,11,0,IntKind.u32.wrap ((pos+3:Nat)+2)⟩,⟨1,9,0,0,p.taken⟩]else[]
def iR(p:Pg)(pl:Pl):List HI:=bif decide (0≤p.target)then jj pl p.target 7++[⟨2,9,dP pl p.target 7,0,0⟩]else[]
def qy(p:Pg)(pl:Pl)(pos:Nat):List HI:=
  gu p pl++(⟨1,9,0,0,p.next⟩::(ge p (pos+(gu p pl).length+1)++(iR p pl++[⟨15,0,15,9,0⟩,⟨1,11,0,0,IntKind.u32.wrap p.count⟩,⟨15,0,15,11,36⟩,⟨19,0,0,0,1⟩])))
def iO(Jp high:Int)(out:Nat):Int:=if 16+Jp - out<16 - high then 16+Jp - out else 16 - high
def Pg.Kf(p:Pg):Int:=iO p.Jn p.JK p.Jw.length
def Pg.Ku(p:Pg):Int:=iO p.Jo p.JN p.Jx.length
def Pg.JW(p:Pg):Bool:= !decide (p.Kf<p.Jn)
def Pg.J4(p:Pg):Bool:= !decide (p.Ku<p.Jo)
def qc(p:Pg)(e:Int):List HI:=⟨1,15,0,0,0⟩::(nh e 14 2 p.Jn p.Kf++nh e 13 3 p.Jo p.Ku)
def iz(p:Pg)(pl:Pl):List HI:=jy p.Jn p.Jo pl p.code 0++(gS pl 14 4 2 p.Jw++gS pl 13 20 3 p.Jx)
def fh(p:Pg)(pl:Pl)(e:Int):List HI:=
  bif p.JW then(bif p.J4 then qc p e++(iz p pl++qy p pl (17+(iz p pl).length))else⟨1,15,0,0,0⟩::nh e 14 2 p.Jn p.Kf)else[⟨1,15,0,0,0⟩]
def gm(p:Pg)(pl:Pl):List HI:=fh p pl (IntKind.u32.wrap ((fh p pl 0).length:Nat))++[⟨19,0,0,0,2⟩]
def Lo(pl:Pl)(R W:List Int)(n:Int)(v:Int):Prop:=(pl.inR n=true→R.getD (pl.r n).toNat 0=v)∧(pl.inR n=false→W.getD (64+(pl.s n).toNat) 0=v)
def Pl.has(pl:Pl)(n:Int):Prop:=(pl.inR n=true∧pl.r n<7)∨(pl.inR n=false∧0≤pl.s n∧pl.s n<128)
section
variable {C l:List HI} {k:Nat} {R W:List Int} {M:HM} {pl:Pl}
theorem la{n:Int}{into:Nat}(h:pl.has n)(hi:into=7∨into=8∨into=9):∃r:Nat,dP pl n into=r∧(r=into∧pl.inR n=false∨r<7∧pl.inR n=true∧(pl.r n).toNat=r):=by
  unfold dP;rcases h with⟨h1,h2⟩|⟨h1,h2,h3⟩
  · rw[h1]
    have h0:0≤pl.r n:=by unfold Pl.inR at h1;simpa using h1
    exact⟨(pl.r n).toNat,by show pl.r n=_;omega,Or.inr ⟨by omega,rfl,rfl⟩⟩
  rw[h1];exact⟨into,rfl,Or.inl ⟨rfl,rfl⟩⟩
theorem vY{n:Int}(h:0≤pl.s n∧pl.s n<128)(h15:R.getD 15 0=0):IntKind.u64.wrap (R.getD 15 0+IntKind.u32.wrap (64+pl.s n))=((64+(pl.s n).toNat:Nat):Int):=by
  rw[h15,aE,aU];omega
theorem HGo.get{n v:Int}{into r:Nat}(h:HGo C k (jj pl n into++l) R W M)(hh:pl.has n)(hi:into=7∨into=8)(hr:dP pl n into=r)(h15:R.getD 15 0=0)(hv:Lo pl R W n v):
    ∃k' R',HGo C k' l R' W M∧R'.getD r 0=v∧jZ [into] R R':=by
  obtain⟨r2,h1,h2⟩:=la hh (into:=into) Wq1;obtain rfl:r2=r:=by have:=hr.symm.trans h1;omega
  rcases h2 with⟨rfl,h3⟩|⟨h3,h4,h5⟩
  · unfold jj at h
    rw[h3]at h;have hs:0≤pl.s n∧pl.s n<128:=by rcases hh with⟨h6, -⟩|⟨-,h6⟩;rw[h3]at h6;cases h6;exact h6
    have g:=HGo.ld (rd:=r2) (ra:=15) (p:=64+(pl.s n).toNat) h (vY hs h15) Wq1;exact⟨_,_,g,(cR (by rw[h.rl];omega)).trans (hv.2 h3),jZ.set R _ _ cJ⟩
  unfold jj at h;rw[h4]at h;exact⟨k,R,h,by rw[←h5];exact hv.1 h4,jZ.refl _ _⟩
theorem HGo.JJ{n v:Int}{r:Nat}(h:HGo C k (iT pl n (dP pl n 9)++l) R W M)(hh:pl.has n)(hr:dP pl n 9=r)(h15:R.getD 15 0=0)(hv:R.getD r 0=v)(hv2:0≤v∧v≤4294967295):
    ∃k' W',HGo C k' l R W' M∧Lo pl R W' n v∧∀j,(pl.inR n=true∨j≠64+(pl.s n).toNat)→W'.getD j 0=W.getD j 0:=by
  obtain⟨r2,h1,h2⟩:=la hh (into:=9) Wq1;have h1:dP pl n 9=r2:=h1;obtain rfl:r2=r:=by have:=hr.symm.trans h1;omega
  unfold iT at h;rcases h2 with⟨rfl,h3⟩|⟨h3,h4,h5⟩
  · rw[h3]at h
    have hs:0≤pl.s n∧pl.s n<128:=by rcases hh with⟨h6, -⟩|⟨-,h6⟩;rw[h3]at h6;cases h6;exact h6
    have hg:dP pl n 9=9:=by unfold dP;rw[h3];rfl
    rw[hg]at h;have g:=HGo.st (ra:=15) (rb:=9) (p:=64+(pl.s n).toNat) (v:=v) h (vY hs h15) Wq1 (by rw[hv,aE];omega);refine⟨_,_,g,⟨fun h6=>(by rw[h3]at h6;cases h6),fun _=>cR (by rw[h.wl];omega)⟩,fun j hj=>?_⟩;rcases hj with hj|hj
    · rw[h3]at hj;cases hj
    exact cA (fun e=>hj e.symm)
  rw[h4]at h;exact⟨k,W,h,⟨fun _=>(by rw[h5];exact hv),fun h6=>(by rw[h4]at h6;cases h6)⟩,fun _ _=>rfl⟩
structure II.ok(x:II)(Jn Jo:Int)(n:Nat):Prop where
  imm:0≤x.imm∧x.imm≤4294967295
  op:(x.op=0)∨(x.op=1∧x.imm<Jn)∨(x.op=2∧x.imm<Jo)∨(x.op=3∧16≤x.imm∧x.imm≤23)∨(x.op=4∧((16≤x.imm∧x.imm≤23)∨x.imm=25))
  ab:x.op=3∨x.op=4→(0≤x.a∧x.a<n)∧(0≤x.b∧x.b<n)
def wds(l:List Int):Prop:=∀x,x∈l→0≤x∧x≤4294967295
theorem iB{l:List Int}(h:wds l)(n:Nat):0≤l.getD n 0∧l.getD n 0≤4294967295:=by
  rw[aw];by_cases hn:n<l.length
  · rw[ai hn];exact h _ (List.getElem_mem hn)
  rw[bH Wq1];exact⟨by decide,by decide⟩
theorem lE{l:List Int}(h:wds l)(n:Nat):∃x:Nat,l.getD n 0=(x:Int)∧x<4294967296:=by
  obtain⟨h1,h2⟩:=iB h n;exact⟨(l.getD n 0).toNat,by omega,by omega⟩
theorem ER{op:Int}{x y:Nat}(hx:x<4294967296)(hy:y<4294967296)(hop:(16≤op∧op≤23)∨op=25):0≤(iu op x y).2.1∧(iu op x y).2.1≤15:=by
  have hb:∀b:Bool,0≤b2i b∧b2i b≤1:=fun b=>by cases b<;>decide
  have hT:∀(a b r o:Int) (p q c:Bool),0≤jf a b r (b2i p+2*b2i q) c o∧jf a b r (b2i p+2*b2i q) c o≤15:=fun a b r o p q c=>by
    rw[rZ];have h1:=hb p;have h2:=hb q;have h3:=hb c;have h4:=hb (o !=0);omega
  have hp:∀r:Nat,r<4294967296→0≤dz r∧dz r≤15:=fun r hr=>by
    rw[iX hr];have h1:=hb ((r:Int)==0);have h2:=hb (decide (2147483648≤r));omega
  have hr:=qB hop hx hy;have h8:op=16∨op=17∨op=18∨op=19∨op=20∨op=21∨op=22∨op=23∨op=25:=by omega
  obtain⟨r,hr,hr2⟩:=hr;rcases h8 with rfl|rfl|rfl|rfl|rfl|rfl|rfl|rfl|rfl
  · show 0≤mi x y∧mi x y≤15
    have hr:IntKind.u32.wrap ((x:Int)+y)=(r:Int):=hr;unfold mi;rw[hr,iX hr2];exact hT ..
  · show 0≤jU x y∧jU x y≤15
    have hr:IntKind.u32.wrap ((x:Int) - y)=(r:Int):=hr;unfold jU;rw[hr,iX hr2];exact hT ..
  · show 0≤dz (sE 18 x y)∧dz (sE 18 x y)≤15;rw[hr];exact hp r hr2
  · show 0≤dz (sE 19 x y)∧dz (sE 19 x y)≤15;rw[hr];exact hp r hr2
  · show 0≤dz (sE 20 x y)∧dz (sE 20 x y)≤15;rw[hr];exact hp r hr2
  · show 0≤dz (sE 21 x y)∧dz (sE 21 x y)≤15;rw[hr];exact hp r hr2
  · show 0≤dz (sE 22 x y)∧dz (sE 22 x y)≤15;rw[hr];exact hp r hr2
  · show 0≤dz (sE 23 x y)∧dz (sE 23 x y)≤15;rw[hr];exact hp r hr2
  show 0≤jU x y∧jU x y≤15;have hr:IntKind.u32.wrap ((x:Int) - y)=(r:Int):=hr;unfold jU;rw[hr,iX hr2];exact hT ..
structure IG(D Rr:List Int)(Jn Jo:Int)(R W:List Int):Prop where
  z:R.getD 15 0=0
  bd:R.getD 14 0=(D.length:Int) - Jn
  br:R.getD 13 0=(Rr.length:Int) - Jo
  d:∀j,j<D.length→W.getD (4+j) 0=D.getD j 0
  r:∀j,j<Rr.length→W.getD (20+j) 0=Rr.getD j 0
  d16:D.length≤16
  r16:Rr.length≤16
  nd:0≤Jn∧Jn≤D.length
  nr:0≤Jo∧Jo≤Rr.length
theorem IG.mono{D Rr:List Int}{Jn Jo:Int}{R W R' W':List Int}(h:IG D Rr Jn Jo R W)(hs:∀j,13≤j→R'.getD j 0=R.getD j 0)(hw:∀j,j<64→W'.getD j 0=W.getD j 0):IG D Rr Jn Jo R' W':=
  ⟨by rw[hs 15 Wq5,h.z],by rw[hs 14 Wq5,h.bd],by rw[hs 13 Wq5,h.br],fun j hj=>by have:=h.d16;rw[hw _ Wq1,h.d j hj],fun j hj=>by have:=h.r16;rw[hw _ Wq1,h.r j hj],h.d16,h.r16,h.nd,h.nr⟩
theorem HGo.one{D Rr V:List Int}{Jn Jo:Int}{n:Nat}{x:II}(h:HGo C k (pi Jn Jo pl n x++l) R W M)(hx:x.ok Jn Jo n)(hb:IG D Rr Jn Jo R W)(hD:wds D)(hR:wds Rr)(hV:wds V)
    (hn:pl.has n) (hab:x.op=3∨x.op=4→(pl.has x.a∧Lo pl R W x.a (V.getD x.a.toNat 0))∧(pl.has x.b∧Lo pl R W x.b (V.getD x.b.toNat 0))):
    ∃k' R' W',HGo C k' l R' W' M∧Lo pl R' W' n (kj D Rr V x)∧IG D Rr Jn Jo R' W'∧(∀j,j<7→(pl.inR n=true→j≠(pl.r n).toNat)→R'.getD j 0=R.getD j 0)∧(∀j,(pl.inR n=true∨j≠64+(pl.s n).toNat)→W'.getD j 0=W.getD j 0):=by
  obtain⟨rd,hrd,hrd2⟩:=la hn (into:=9) Wq1;have hrd:dP pl n 9=(rd:Int):=hrd;have hrd10:rd<10:=by rcases hrd2 with⟨h1, -⟩|⟨h1, -⟩<;>omega
  have fin:∀(k1:Nat) (R1:List Int) (v:Int),HGo C k1 (iT pl n (dP pl n 9)++l) R1 W M→R1.getD rd 0=v→(0≤v∧v≤4294967295)→(∀j,j≠rd→(j<7∨13≤j)→R1.getD j 0=R.getD j 0)→
      ∃k' R' W',HGo C k' l R' W' M∧Lo pl R' W' n v∧IG D Rr Jn Jo R' W'∧(∀j,j<7→(pl.inR n=true→j≠(pl.r n).toNat)→R'.getD j 0=R.getD j 0)∧(∀j,(pl.inR n=true∨j≠64+(pl.s n).toNat)→W'.getD j 0=W.getD j 0):=fun k1 R1 v g hv hv2 hs=>by
    obtain⟨k2,W2,g1,g2,g3⟩:=HGo.JJ g hn hrd (by rw[hs 15 Wq1 Wq1,hb.z]) hv hv2;have hw:∀j,j<64→W2.getD j 0=W.getD j 0:=fun j hj=>g3 j (by
      cases hi:pl.inR n with
      |true=>exact Or.inl rfl
      |false=>exact Or.inr Wq1)
    refine⟨k2,R1,W2,g1,g2,hb.mono (fun j hj=>hs j Wq1 Wq1) hw,fun j hj hne=>?_,g3⟩;rcases hrd2 with⟨h1,h2⟩|⟨h1,h2,h3⟩
    · exact hs j Wq1 (Or.inl hj)
    exact hs j (by have:=hne h2;omega) (Or.inl hj)
  have hap:∀m:List HI,HGo C k (m++(iT pl n (dP pl n 9)++l)) R W M↔HGo C k ((m++iT pl n (dP pl n 9))++l) R W M:=fun m=>by rw[ap]
  have two:∀m:List HI,(x.op=3∨x.op=4)→HGo C k (jj pl x.a 7++(jj pl x.b 8++m)) R W M→∃(k1:Nat) (R1:List Int) (ra rb a b:Nat),HGo C k1 m R1 W M∧dP pl x.a 7=ra∧dP pl x.b 8=rb∧ra<9∧rb<9∧R1.getD ra 0=(a:Int)∧R1.getD rb 0=(b:Int)∧
      V.getD x.a.toNat 0=(a:Int)∧V.getD x.b.toNat 0=(b:Int)∧a<4294967296∧b<4294967296∧jZ [7,8] R R1:=fun m ho g=>by
    obtain⟨⟨h1,h2⟩,h3,h4⟩:=hab ho;obtain⟨ra,e1,e2⟩:=la h1 (into:=7) Wq1;obtain⟨rb,e3,e4⟩:=la h3 (into:=8) Wq1;have e1:dP pl x.a 7=(ra:Int):=e1;have e3:dP pl x.b 8=(rb:Int):=e3;obtain⟨a,a1,a2⟩:=lE hV x.a.toNat;obtain⟨b,b1,b2⟩:=lE hV x.b.toNat;rw[a1]at h2;rw[b1]at h4;obtain⟨k1,R1,g1,g2,g3⟩:=HGo.get (into:=7) g h1 Wq1 e1 hb.z h2;have h4':Lo pl R1 W x.b b:=by
      refine⟨fun hi=>?_,h4.2⟩;rcases h3 with⟨q1,q2⟩|⟨q1, -⟩
      · rw[g3 _ ?_]
        · exact h4.1 hi
        have:(pl.r x.b).toNat≠7:=by omega
        simpa using this
      rw[q1]at hi;cases hi
    obtain⟨k2,R2,p1,p2,p3⟩:=HGo.get (into:=8) g1 h3 Wq1 e3 (by rw[g3 15 Wq5,hb.z]) h4';refine⟨k2,R2,ra,rb,a,b,p1,e1,e3,?_,?_,?_,p2,a1,b1,a2,b2,g3.trans p3 (by intro z hz;simpa using hz)⟩
    · rcases e2 with⟨q, -⟩|⟨q, -⟩<;>omega
    · rcases e4 with⟨q, -⟩|⟨q, -⟩<;>omega
    rw[p3 ra (by rcases e2 with⟨q, -⟩|⟨q, -⟩<;>simp<;>omega),g2]
  obtain⟨op,dst,xa,xb,imm⟩:=x;obtain⟨hi1,hi2⟩:=hx.imm;have hop:=hx.op;dsimp only at hop hi1 hi2 two hab;rcases hop with rfl|⟨rfl,h1⟩|⟨rfl,h1⟩|⟨rfl,h1⟩|⟨rfl,h1⟩
  · have g:HGo C k (⟨1,(rd:Int),0,0,imm⟩::(iT pl n (dP pl n 9)++l)) R W M:=by rw[←hrd];exact(hap [⟨1,dP pl n 9,0,0,imm⟩]).2 h
    exact fin _ _ imm g.li (cR (by rw[h.rl];omega)) ⟨hi1,hi2⟩ (fun j h1 _=>cA (fun e=>h1 e.symm))
  · have g:HGo C k (⟨14,(rd:Int),14,0,IntKind.u32.wrap (4+Jn - 1 - imm)⟩::(iT pl n (dP pl n 9)++l)) R W M:=by rw[←hrd];exact(hap [_]).2 h
    obtain⟨n1,n2⟩:=hb.nd;have hd:=hb.d16;have g1:=HGo.ld (rd:=rd) (ra:=14) (p:=4+(D.length - 1 - imm.toNat)) g (by rw[hb.bd,aE,aU];omega) Wq1;have hv:W.getD (4+(D.length - 1 - imm.toNat)) 0=D.getD (D.length - 1 - imm.toNat) 0:=hb.d _ Wq1;rw[hv]at g1;exact fin _ _ _ g1 (cR (by rw[h.rl];omega)) (iB hD _) (fun j h1 _=>cA (fun e=>h1 e.symm))
  · have g:HGo C k (⟨14,(rd:Int),13,0,IntKind.u32.wrap (20+Jo - 1 - imm)⟩::(iT pl n (dP pl n 9)++l)) R W M:=by rw[←hrd];exact(hap [_]).2 h
    obtain⟨n1,n2⟩:=hb.nr;have hd:=hb.r16;have g1:=HGo.ld (rd:=rd) (ra:=13) (p:=20+(Rr.length - 1 - imm.toNat)) g (by rw[hb.br,aE,aU];omega) Wq1;have hv:W.getD (20+(Rr.length - 1 - imm.toNat)) 0=Rr.getD (Rr.length - 1 - imm.toNat) 0:=hb.r _ Wq1;rw[hv]at g1;exact fin _ _ _ g1 (cR (by rw[h.rl];omega)) (iB hR _) (fun j h1 _=>cA (fun e=>h1 e.symm))
  · have g:HGo C k (jj pl xa 7++(jj pl xb 8++(ul imm (dP pl n 9) (dP pl xa 7) (dP pl xb 8)++(iT pl n (dP pl n 9)++l)))) R W M:=by
      have e:pi Jn Jo pl n ⟨3,dst,xa,xb,imm⟩++l=jj pl xa 7++(jj pl xb 8++(ul imm (dP pl n 9) (dP pl xa 7) (dP pl xb 8)++(iT pl n (dP pl n 9)++l))):=by
        show((jj pl xa 7++(jj pl xb 8++ul imm (dP pl n 9) (dP pl xa 7) (dP pl xb 8)))++iT pl n (dP pl n 9))++l=_;simp only[ap]
      rwa[e]at h
    obtain⟨k1,R1,ra,rb,a,b,g1,e1,e2,ha,hbb,ea,eb,va,vb,a2,b2,hs⟩:=two _ (Or.inl rfl) g;rw[e1,e2,hrd]at g1;obtain⟨k2,R2,p1,p2,p3⟩:=HGo.alu (rd:=rd) (Or.inl h1) g1 Wq1 ea eb a2 b2;obtain⟨q,q1,q2⟩:=qB (Or.inl h1) a2 b2;have hv:kj D Rr V ⟨3,dst,xa,xb,imm⟩=sE imm a b:=by
      show(iu imm (V.getD xa.toNat 0) (V.getD xb.toNat 0)).1=_;rw[va,vb];unfold sE;rw[show(imm==25)=false by simp;omega];rfl
    rw[hv];exact fin _ _ _ (by rw[hrd];exact p1) p2 (by rw[q1];omega) (fun j h1 h2=>by rw[p3 j (by simp;omega),hs j (by simp;omega)])
  have g:HGo C k (jj pl xa 7++(jj pl xb 8++(lb imm (dP pl xa 7) (dP pl xb 8)++(⟨2,dP pl n 9,10,0,0⟩::(iT pl n (dP pl n 9)++l))))) R W M:=by
    have e:pi Jn Jo pl n ⟨4,dst,xa,xb,imm⟩++l=jj pl xa 7++(jj pl xb 8++(lb imm (dP pl xa 7) (dP pl xb 8)++(⟨2,dP pl n 9,10,0,0⟩::(iT pl n (dP pl n 9)++l)))):=by
      show((jj pl xa 7++(jj pl xb 8++(lb imm (dP pl xa 7) (dP pl xb 8)++[⟨2,dP pl n 9,10,0,0⟩])))++iT pl n (dP pl n 9))++l=_;simp only[ap,aM,aP]
    rwa[e]at h
  obtain⟨k1,R1,ra,rb,a,b,g1,e1,e2,ha,hbb,ea,eb,va,vb,a2,b2,hs⟩:=two _ (Or.inr rfl) g;rw[e1,e2]at g1;obtain⟨k2,R2,p1,p2,p3⟩:=HGo.flag h1 g1 ha hbb (by rw[hs 15 Wq5,hb.z]) ea eb a2 b2;have hfl:=ER a2 b2 h1;have hv:kj D Rr V ⟨4,dst,xa,xb,imm⟩=(iu imm a b).2.1:=by
    show(iu imm (V.getD xa.toNat 0) (V.getD xb.toNat 0)).2.1=_;rw[va,vb]
  rw[hv];rw[hrd]at p1;have p4:=HGo.mov (rd:=rd) (ra:=10) p1;rw[p2]at p4;exact fin _ _ _ (by rw[hrd];exact p4) (cR (by rw[p1.rl];omega)) Wq1 (fun j h1 h2=>by rw[cA (fun e=>h1 e.symm),p3 j (by simp;omega),hs j (by simp;omega)])
end
theorem nm1{a b:Nat}(h:a≠b):a∉[b]:=fun hm=>h (aL.1 hm)
structure FO(pl:Pl)(T:List Int)(N:Nat):Prop where
 has:∀n:Nat,n<N→pl.has n
 reg:∀i j:Nat,i<j→j<N→pl.inR i=true→pl.inR j=true→pl.r i=pl.r j→T.getD i 0≤j
 slot:∀i j:Nat,i<j→j<N→pl.inR i=false→pl.inR j=false→pl.s i=pl.s j→T.getD i 0≤j
def AL(pl:Pl)(T V:List Int)(n:Nat)(R W:List Int):Prop:=∀a:Nat,a<n→(n:Int)≤T.getD a 0→Lo pl R W a (V.getD a 0)
section
variable {C l:List HI} {k:Nat} {R W:List Int} {M:HM} {pl:Pl} {D Rr:List Int} {Jn Jo:Int} {T:List Int}
theorem CK{V V':List Int}{x:II}{n:Nat}(hx:x.ok Jn Jo n)(h:∀a:Nat,a<n→V.getD a 0=V'.getD a 0):kj D Rr V x=kj D Rr V' x:=by
 have hop:=hx.op;have hab:=hx.ab;obtain⟨op,dst,a,b,imm⟩:=x;dsimp only at hop hab;rcases hop with rfl|⟨rfl, -⟩|⟨rfl, -⟩|⟨rfl, -⟩|⟨rfl, -⟩
 ·rfl
 ·rfl
 ·rfl
 ·obtain⟨h1,h2⟩:=hab (Or.inl rfl);show(iu imm (V.getD a.toNat 0) (V.getD b.toNat 0)).1=(iu imm (V'.getD a.toNat 0) (V'.getD b.toNat 0)).1;rw[h a.toNat Wq1,h b.toNat Wq1]
 obtain⟨h1,h2⟩:=hab (Or.inr rfl);show(iu imm (V.getD a.toNat 0) (V.getD b.toNat 0)).2.1=(iu imm (V'.getD a.toNat 0) (V'.getD b.toNat 0)).2.1;rw[h a.toNat Wq1,h b.toNat Wq1]
def OkC(Jn Jo:Int)(code:List II):Prop:=∀(n:Nat) (x:II),code[n]? =some x→x.ok Jn Jo n
theorem OkC.app{pre suf:List II}(h:OkC Jn Jo (pre++suf)):OkC Jn Jo pre:=fun n x hx=>h n x (by rw[bD (ar.1 hx).1];exact hx)
theorem OkC.last{pre:List II}{x:II}(h:OkC Jn Jo (pre++[x])):x.ok Jn Jo pre.length:=h pre.length x cJ
theorem F6{V:List Int}{x:II}{n:Nat}(hx:x.ok Jn Jo n)(hD:wds D)(hR:wds Rr)(hV:wds V):0≤kj D Rr V x∧kj D Rr V x≤4294967295:=by
 have hop:=hx.op;have hi:=hx.imm;obtain⟨op,dst,a,b,imm⟩:=x;dsimp only at hop hi;obtain⟨x,hx1,hx2⟩:=lE hV a.toNat;obtain⟨y,hy1,hy2⟩:=lE hV b.toNat;rcases hop with rfl|⟨rfl, -⟩|⟨rfl, -⟩|⟨rfl,h1⟩|⟨rfl,h1⟩
 ·exact hi
 ·exact iB hD _
 ·exact iB hR _
 ·show 0≤(iu imm (V.getD a.toNat 0) (V.getD b.toNat 0)).1∧(iu imm (V.getD a.toNat 0) (V.getD b.toNat 0)).1≤4294967295;obtain⟨r,hr,hr2⟩:=qB (Or.inl h1) hx2 hy2;have:(iu imm x y).1=(r:Int):=by rw[←hr];unfold sE;rw[show(imm==25)=false by simp;omega];rfl
  rw[hx1,hy1,this];omega
 show 0≤(iu imm (V.getD a.toNat 0) (V.getD b.toNat 0)).2.1∧(iu imm (V.getD a.toNat 0) (V.getD b.toNat 0)).2.1≤4294967295;rw[hx1,hy1];have:=ER hx2 hy2 h1;omega
theorem F5(code:List II)(hD:wds D)(hR:wds Rr)(h:OkC Jn Jo code):wds (JR D Rr code):=by
 revert h;refine uD (p:=fun code=>OkC Jn Jo code→wds (JR D Rr code)) (fun _ x hx=>by cases hx) (fun l x ih h=>?_) code;rw[kz];intro y hy;rcases aS.1 hy with h1|h1
 ·exact ih h.app y h1
 rw[aL.1 h1];exact F6 h.last hD hR (ih h.app)
theorem vals_at{pre:List II}{x:II}{suf:List II}(h:OkC Jn Jo (pre++x::suf)):(JR D Rr (pre++x::suf)).getD pre.length 0=kj D Rr (JR D Rr (pre++x::suf)) x:=by
 have h2:pre++x::suf=(pre++[x])++suf:=by simp
 rw[h2]at h⊢;obtain⟨m,hm⟩:=y8 (D:=D) (R:=Rr) (pre++[x]) suf;have e1:(JR D Rr (pre++[x])).length=pre.length+1:=by rw[ql];simp
 have e0:(JR D Rr pre).length=pre.length:=ql _;have e2:∀a:Nat,a<pre.length→(JR D Rr pre).getD a 0=(JR D Rr ((pre++[x])++suf)).getD a 0:=fun a ha=>by
  rw[hm,kz,ap];simp only[aw];rw[bD Wq1]
 rw[←CK (OkC.last (OkC.app h)) e2,hm,kz];simp only[aw];rw[ap,bF Wq1,e0,Nat.sub_self]
 rfl
theorem HGo.all{V:List Int}{N:Nat}(hp:FO pl T N)(hD:wds D)(hR:wds Rr)(hV:wds V):∀(suf:List II) (n:Nat) (k:Nat) (R W:List Int),HGo C k (jy Jn Jo pl suf n++l) R W M→n+suf.length=N→
  (∀i x,suf[i]? =some x→x.ok Jn Jo (n+i)∧V.getD (n+i) 0=kj D Rr V x∧(x.op=3∨x.op=4→((n+i:Nat):Int)≤T.getD x.a.toNat 0∧((n+i:Nat):Int)≤T.getD x.b.toNat 0))→
  IG D Rr Jn Jo R W→AL pl T V n R W→∃k' R' W',HGo C k' l R' W' M∧IG D Rr Jn Jo R' W'∧AL pl T V N R' W'∧∀j,j<64→W'.getD j 0=W.getD j 0
 |[],n,k,R,W,h,hN,hx,hb,hh=>⟨k,R,W,h,hb,(by have:n=N:=(by simpa using hN);subst this;exact hh),fun _ _=>rfl⟩
 |x::suf,n,k,R,W,h,hN,hx,hb,hh=>by
  have hN':n+1+suf.length=N:=by rw[←hN];simp;omega
  obtain⟨x1,x2,x3⟩:=hx 0 x rfl;rw[Nat.add_zero]at x1 x2 x3;have h:HGo C k (pi Jn Jo pl n x++(jy Jn Jo pl suf (n+1)++l)) R W M:=by
   have e:jy Jn Jo pl (x::suf) n++l=pi Jn Jo pl n x++(jy Jn Jo pl suf (n+1)++l):=by show(pi Jn Jo pl n x++jy Jn Jo pl suf (n+1))++l=_;rw[ap]
   rwa[e]at h
  have hn:=hp.has n Wq1;have hab:x.op=3∨x.op=4→(pl.has x.a∧Lo pl R W x.a (V.getD x.a.toNat 0))∧(pl.has x.b∧Lo pl R W x.b (V.getD x.b.toNat 0)):=fun ho=>by
   obtain⟨⟨a1,a2⟩,b1,b2⟩:=x1.ab ho;obtain⟨t1,t2⟩:=x3 ho;have ea:((x.a.toNat:Nat):Int)=x.a:=by omega
   have eb:((x.b.toNat:Nat):Int)=x.b:=by omega
   have ha:=hh x.a.toNat Wq1 t1;have hb:=hh x.b.toNat Wq1 t2;have pa:=hp.has x.a.toNat Wq1;have pb:=hp.has x.b.toNat Wq1;rw[ea]at ha pa;rw[eb]at hb pb;exact⟨⟨pa,ha⟩,pb,hb⟩
  obtain⟨k1,R1,W1,g1,g2,g3,g4,g5⟩:=HGo.one h x1 hb hD hR hV hn hab;have hold:AL pl T V (n+1) R1 W1:=fun a ha ht=>by
   by_cases e:a=n
   ·subst e;rw[x2];exact g2
   have h1:=hh a Wq1 Wq1;have hlt:a<n:=by omega
   refine⟨fun hi=>?_,fun hi=>?_⟩
   ·rw[g4 _ ?_ ?_];exact h1.1 hi
    ·rcases hp.has a (by omega)with⟨-,q⟩|⟨q, -⟩
     ·have:0≤pl.r a:=by unfold Pl.inR at hi;simpa using hi
      omega
     rw[hi]at q;cases q
    intro hin e2;have:=hp.reg a n hlt Wq1 hi hin (by
     have q1:0≤pl.r a:=by unfold Pl.inR at hi;simpa using hi
     have q2:0≤pl.r n:=by unfold Pl.inR at hin;simpa using hin
     omega)
    omega
   rw[g5 _ ?_];exact h1.2 hi;cases hin:pl.inR n with
   |true=>exact Or.inl rfl
   |false=>
    refine Or.inr fun e2=>?_
    have s1:0≤pl.s a:=by rcases hp.has a (by omega)with⟨q, -⟩|⟨-,q, -⟩;rw[hi]at q;cases q;exact q
    have s2:0≤pl.s n:=by rcases hn with⟨q, -⟩|⟨-,q, -⟩;rw[hin]at q;cases q;exact q
    have:=hp.slot a n hlt Wq1 hi hin Wq1;omega
  obtain⟨k2,R2,W2,q1,q2,q3,q4⟩:=HGo.all hp hD hR hV suf (n+1) k1 R1 W1 g1 hN' (fun i y hy=>by
   have:=hx (i+1) y (by simpa using hy);rw[show n+(i+1)=n+1+i by omega]at this;exact this) g3 hold
  refine⟨k2,R2,W2,q1,q2,q3,fun j hj=>?_⟩;rw[q4 j hj,g5 j ?_];cases hin:pl.inR n with
  |true=>exact Or.inl rfl
  |false=>exact Or.inr Wq1
theorem HGo.outs{V:List Int}{N base B from_:Nat}(hp:FO pl T N)(hV:wds V)(hbase:base=13∨base=14)(hfr:from_=4∨from_=20):∀(out:List Int) (j:Nat) (k:Nat) (R W:List Int),HGo C k (tH pl base from_ out j++l) R W M→
  (∀n,n∈out→0≤n∧n<N∧(N:Int)≤T.getD n.toNat 0)→B+j+out.length≤16→R.getD base 0=(B:Int)→R.getD 15 0=0→AL pl T V N R W→
  ∃k' R' W',HGo C k' l R' W' M∧jZ [7] R R'∧(∀i,(i<from_+B+j∨from_+B+j+out.length≤i)→W'.getD i 0=W.getD i 0)∧(∀i,i<out.length→W'.getD (from_+B+j+i) 0=V.getD (out.getD i 0).toNat 0)
 |[],j,k,R,W,h,ho,hB,hb,h15,hh=>⟨k,R,W,h,jZ.refl _ _,fun _ _=>rfl,fun i hi=>absurd hi cJ⟩
 |n::out,j,k,R,W,h,ho,hB,hb,h15,hh=>by
  obtain⟨n0,n1,n2⟩:=ho n cJ;have en:((n.toNat:Nat):Int)=n:=by omega
  have hn:=hp.has n.toNat Wq1;have hl:=hh n.toNat Wq1 n2;rw[en]at hn hl;have hB':B+j+(out.length+1)≤16:=hB;have h:HGo C k (jj pl n 7++(⟨15,0,(base:Int),dP pl n 7,IntKind.u32.wrap ((from_:Int)+IntKind.u32.wrap (j:Int))⟩::(tH pl base from_ out (j+1)++l))) R W M:=by
   have e:tH pl base from_ (n::out) j++l=jj pl n 7++(⟨15,0,(base:Int),dP pl n 7,IntKind.u32.wrap ((from_:Int)+IntKind.u32.wrap (j:Int))⟩::(tH pl base from_ out (j+1)++l)):=by
    show(jj pl n 7++(_::tH pl base from_ out (j+1)))++l=_;rw[ap,aM]
   rwa[e]at h
  obtain⟨r,hr,hr2⟩:=la hn (into:=7) Wq1;have hr:dP pl n 7=(r:Int):=hr;obtain⟨v,hv,hv2⟩:=lE hV n.toNat;rw[hv]at hl;obtain⟨k1,R1,g1,g2,g3⟩:=HGo.get (into:=7) h hn Wq1 hr h15 hl;rw[hr]at g1;have hb1:R1.getD base 0=(B:Int):=by rw[g3 base (by simp;omega),hb]
  have g4:=HGo.st (ra:=base) (rb:=r) (p:=from_+B+j) (v:=(v:Int)) g1 (by rw[hb1,aE,aE,aU];omega) Wq1 (by rw[g2,aE];omega);have hold:AL pl T V N R1 (W.set (from_+B+j) v):=fun a ha ht=>by
   have h1:=hh a ha ht;have h2:=hp.has a ha;refine⟨fun hi=>?_,fun hi=>?_⟩
   ·rw[g3 _ ?_];exact h1.1 hi;rcases h2 with⟨-,q⟩|⟨q, -⟩
    ·have:0≤pl.r a:=by unfold Pl.inR at hi;simpa using hi
     exact nm1 Wq1
    rw[hi]at q;cases q
   rw[cA Wq1];exact h1.2 hi
  obtain⟨k2,R2,W2,q1,q2,q3,q4⟩:=HGo.outs hp hV hbase hfr out (j+1) _ R1 _ g4 (fun m hm=>ho m (by simp[hm])) Wq1 hb1 (by rw[g3 15 Wq5,h15]) hold;have hw:=h.wl;refine⟨k2,R2,W2,q1,g3.trans q2 (by intro z hz;simpa using hz),fun i hi=>?_,fun i hi=>?_⟩
  ·have hi:i<from_+B+j∨from_+B+j+(out.length+1)≤i:=hi;rw[q3 i Wq1,cA Wq1]
  cases i with
  |zero=>
   rw[Nat.add_zero,q3 _ Wq1,cR Wq1];show(v:Int)=V.getD n.toNat 0;rw[hv]
  |succ i=>
   have:=q4 i (by simpa using hi);rw[show from_+B+(j+1)+i=from_+B+j+(i+1) by omega]at this;exact this
theorem HGo.stack{V:List Int}{N base B from_ word:Nat}{out:List Int}(hp:FO pl T N)(hV:wds V)(hbase:base=13∨base=14)(hfr:from_=4∨from_=20)(hw:word=2∨word=3)(h:HGo C k (gS pl base from_ word out++l) R W M)
  (ho:∀n,n∈out→0≤n∧n<N∧(N:Int)≤T.getD n.toNat 0) (hB:B+out.length≤16) (hb:R.getD base 0=(B:Int)) (h15:R.getD 15 0=0) (hh:AL pl T V N R W):
  ∃k' R' W',HGo C k' l R' W' M∧jZ [7,11] R R'∧(∀i,i≠word→(i<from_+B∨from_+B+out.length≤i)→W'.getD i 0=W.getD i 0)∧(∀i,i<out.length→W'.getD (from_+B+i) 0=V.getD (out.getD i 0).toNat 0)∧W'.getD word 0=((B+out.length:Nat):Int)∧AL pl T V N R' W':=by
 have h:HGo C k (tH pl base from_ out 0++(⟨1,11,0,0,IntKind.u32.wrap (out.length:Int)⟩::⟨3,11,11,(base:Int),0⟩::⟨15,0,15,11,(word:Int)⟩::l)) R W M:=by
  have e:gS pl base from_ word out++l=tH pl base from_ out 0++(⟨1,11,0,0,IntKind.u32.wrap (out.length:Int)⟩::⟨3,11,11,(base:Int),0⟩::⟨15,0,15,11,(word:Int)⟩::l):=by
   unfold gS;simp only[ap,aM,aP]
  rwa[e]at h
 obtain⟨k1,R1,W1,g1,g2,g3,g4⟩:=HGo.outs hp hV hbase hfr out 0 k R W h ho Wq1 hb h15 hh;have hl:=g1.rl;have hl2:=g1.wl;have a1:=HGo.li (rd:=11) g1;have a2:=HGo.op (rd:=11) (ra:=11) (rb:=base) (v:=((B+out.length:Nat):Int)) a1 Wq5 Wq5 (by
  rw[cR Wq1,cA Wq1,g2 base (by simp;omega),hb];show IntKind.u64.wrap (IntKind.u32.wrap (out.length:Int)+(B:Int))=_;rw[aE,aU];omega)
 have a3:=HGo.st (ra:=15) (rb:=11) (p:=word) (v:=((B+out.length:Nat):Int)) a2 (by rw[cA Wq5,cA Wq5,g2 15 Wq5,h15,aU];omega) Wq1 (by rw[cR (by rw[aG];omega),aE];omega);refine⟨_,_,_,a3,?_,fun i h1 h2=>?_,fun i hi=>?_,cR Wq1,fun a ha ht=>?_⟩
 ·intro j hj;simp only[aK,aY,or_false,not_or]at hj;rw[cA Wq1,cA Wq1,g2 j (by simp;omega)]
 ·rw[cA (fun e=>h1 e.symm),g3 i Wq1]
 ·rw[cA Wq1];have:=g4 i hi;rwa[Nat.add_zero]at this
 have h1:=hh a ha ht;have h2:=hp.has a ha;refine⟨fun hi=>?_,fun hi=>?_⟩
 ·have q1:0≤pl.r a:=by unfold Pl.inR at hi;simpa using hi
  have q2:pl.r a<7:=by rcases h2 with⟨-,q⟩|⟨q, -⟩;exact q;rw[hi]at q;cases q
  rw[cA Wq1,cA Wq1,g2 _ (nm1 Wq1)];exact h1.1 hi
 rw[cA Wq1,g3 _ Wq1];exact h1.2 hi
theorem HGo.room{base word n e:Nat}{Jp JF:Int}(h:HGo C k (nh e base word Jp JF++l) R W M)(hbase:base=13∨base=14)(hw:word=2∨word=3)(h15:R.getD 15 0=0)(hn:W.getD word 0=(n:Int))(hn2:n≤16)(h0:0≤Jp∧Jp≤16)(hm:0≤JF∧JF≤4294967295)
  (he:C.drop e=[⟨19,0,0,0,2⟩]):Jp≤n∧(n:Int)≤JF∧∃k' R',HGo C k' l R' W M∧R'.getD base 0=(n:Int) - Jp∧jZ [base,11,12] R R':=by
 have hl:=h.rl;have no:∀(R1:List Int),¬HGo C e [⟨19,0,0,0,2⟩] R1 W M:=fun R1 g=>by have:=(HGo.exit g).1;cases this
 have a1:=HGo.ld (rd:=base) (ra:=15) (p:=word) h (by rw[h15,aU];omega) Wq1;rw[hn]at a1;have a2:=HGo.li (rd:=11) a1;have e11:((R.set base (n:Int)).set 11 (IntKind.u32.wrap Jp)).getD 11 0=Jp:=by rw[cR (by rw[aG];omega),aE];omega
 have eb:((R.set base (n:Int)).set 11 (IntKind.u32.wrap Jp)).getD base 0=n:=by rw[cA Wq1,cR Wq1]
 have a3:=HGo.op (rd:=12) (ra:=base) (rb:=11) (v:=b2i (decide ((n:Int)<Jp))) a2 Wq5 Wq5 (by rw[e11,eb];rfl);have b3:(((R.set base (n:Int)).set 11 (IntKind.u32.wrap Jp)).set 12 (b2i (decide ((n:Int)<Jp)))).getD 12 0=b2i (decide ((n:Int)<Jp)):=cR (by simp only[aG];omega);have a4:=HGo.bnez (ra:=12) a3 he;rw[b3]at a4;rcases a4 with⟨c1,a4⟩|⟨-,a4⟩
 ·have hlt:Jp≤n:=by
   cases hd:decide ((n:Int)<Jp)with
   |true=>rw[hd]at c1;cases c1
   |false=>have:=of_decide_eq_false hd;omega
  have a5:=HGo.li (rd:=12) a4;have a6:=HGo.op (rd:=12) (ra:=12) (rb:=base) (v:=b2i (decide (JF<(n:Int)))) a5 Wq5 Wq5 (by
   rw[cR (by simp only[aG];omega),cA Wq1,cA Wq1,eb];show b2i (decide (IntKind.u32.wrap JF<(n:Int)))=_;rw[show IntKind.u32.wrap JF=JF by rw[aE];omega])
  have a7:=HGo.bnez (ra:=12) a6 he;rw[cR (by simp only[aG];omega)]at a7;rcases a7 with⟨c2,a7⟩|⟨-,a7⟩
  ·have hle:(n:Int)≤JF:=by
    cases hd:decide (JF<(n:Int))with
    |true=>rw[hd]at c2;cases c2
    |false=>have:=of_decide_eq_false hd;omega
   have a8:=HGo.op (rd:=base) (ra:=base) (rb:=11) (v:=(n:Int) - Jp) a7 Wq5 Wq5 (by
    rw[cA Wq1,cA Wq1,cA Wq1,eb,cA Wq5,cA Wq5,cA Wq5,e11];show IntKind.u64.wrap ((n:Int) - Jp)=_;rw[aU];omega)
   refine⟨hlt,hle,_,_,a8,cR (by simp only[aG];omega),?_⟩;intro j hj;simp only[aK,aY,or_false,not_or]at hj;rw[cA Wq1,cA Wq1,cA Wq1,cA Wq1,cA Wq1,cA Wq1]
  exact absurd a7 (no _)
 exact absurd a4 (no _)
end
end Go.Ink
