/- Lemmas. -/
import Derived.WalkKit
import Derived.WalkSpells
import Derived.WalkLawsBesides
import Derived.OrdersHeld
import Derived.Deep.RegionHeld3
import Derived.Maps.AppendAt
import Derived.Lib.SliceRun
import Derived.ProofKit
import Derived.SizedLaws
import Derived.Carry
import Derived.Below
import Derived.Laws.BytesArg
import Derived.Laws.OwnMore
import Derived.Laws.Strings
import Derived.Laws.IdiomCopy
set_option linter.unusedSimpArgs false
set_option linter.unusedVariables false
set_option maxRecDepth 100000
set_option maxHeartbeats 4000000
namespace Go.Ink
abbrev aa:=@cond_false
abbrev ac:=@cond_true
abbrev ae:=@List.length_append
abbrev ah:=@decide_eq_false_iff_not
abbrev ai:=@List.getElem?_eq_getElem
abbrev aj:=@List.length_cons
abbrev ak:=@decide_eq_true_eq
abbrev ao:=@List.length_nil
abbrev ap:=@List.append_assoc
abbrev aq:=@Int.eq_ofNat_of_zero_le
abbrev ar:=@List.getElem?_eq_some_iff
abbrev au:=@Nat.zero_le
abbrev aw:=@List.getD_eq_getElem?_getD
abbrev ax:=@List.append_nil
abbrev ay:=@decide_eq_true
abbrev az:=@decide_eq_false
abbrev aB:=@Bool.and_eq_true
abbrev aC:=@List.length_take
abbrev aD:=@Option.some.inj
abbrev aE:=@IntKind.wrap_u32
abbrev aF:=@Int.tmod_eq_emod_of_nonneg
abbrev aG:=@List.length_set
abbrev aI:=@List.mem_of_getElem?
abbrev aJ:=@List.length_replicate
abbrev aK:=@List.mem_cons
abbrev aL:=@List.mem_singleton
abbrev aM:=@List.cons_append
abbrev aN:=@Nat.le_refl
abbrev aO:=@Int.toNat_natCast
abbrev aP:=@List.nil_append
abbrev aQ:=@List.Sublist.refl
abbrev aR:=@Option.some.injEq
abbrev aS:=@List.mem_append
abbrev aU:=@IntKind.wrap_u64
abbrev aV:=@Nat.le_trans
abbrev aW:=@Prod.mk.injEq
abbrev aX:=@Array.getD_eq_getD_getElem?
abbrev aY:=@List.mem_nil_iff
abbrev aZ:=@List.getElem?_map
abbrev bh:=@List.mem_map
abbrev bj:=@Bool.or_eq_false_iff
abbrev bl:=@Nat.zero_add
abbrev bn:=@List.length_drop
abbrev bo:=@List.getElem?_set_ne
abbrev bz:=@Int.tdiv_eq_ediv_of_nonneg
abbrev bA:=@List.take_length
abbrev bC:=@List.mem_cons_of_mem
abbrev bD:=@List.getElem?_append_left
abbrev bE:=@List.all_eq_true
abbrev bF:=@List.getElem?_append_right
abbrev bG:=@Nat.eq_of_beq_eq_true
abbrev bH:=@List.getElem?_eq_none
abbrev bI:=@IntKind.wrap_i64
open Go.RowKit
structure Zwr(Q:Prop):Prop where
 h:Q
section
variable{P Q:Prop}
theorem Wq1(h:P:=by omega):P:=h
theorem Wq2(h:P:=by first|exact mH rfl|exact List.mem_append_left _ (mH rfl)|exact List.mem_append_right _ (mH rfl)|exact List.mem_append_right _ (List.mem_append_right _ (List.mem_append_left _ (mH rfl)))|exact List.mem_append_right _ (List.mem_append_right _ (List.mem_append_right _ (mH rfl)))):P:=h
theorem Wq3(h:Q)(f:Zwr Q→P:=by intro y9;refine iF (cs':=[row _ _ _,slv _ _ _ _ _ _,slv _ _ _ _ _ _,row _ _ _,exC _ _ _ _,row _ _ _,row _ _ _,row _ _ _,row _ _ _,row _ _ _,slv _ _ _ _ _ _,slv _ _ _ _ _ _,row _ _ _,slv _ _ _ _ _ _]) (.inr rfl) Zu rfl ?_;exact y9.1):P:=f ⟨h⟩
theorem Wq4(h:P:=by exact fun _=>by omega):P:=h
theorem Wq5(h:P:=by decide):P:=h
theorem Wq6(h:Q)(f:Zwr Q→P:=by intro y9;refine qM Zk ?_;refine Z_5 ?_;refine ZM ?_;refine Z_4 ?_;refine kV (cs':=[]) (.inl rfl) Zu rfl rfl rfl Zh Zrf Zrf ?_;exact y9.1):P:=f ⟨h⟩
theorem Wq7(h:P:=by refine ZM ?_;refine Z_3 ?_;refine bN [row b2 _ _,slv 294 5 A c.length cc (c.flatMap II.cells),sl .i64 3 A3 (dG pl p.Jw).length c3 (dG pl p.Jw),sl .i64 3 A4 (dG pl p.Jx).length c4 (dG pl p.Jx)] Zj ?_;refine lP (cs':=[slv _ _ _ _ _ _,slv _ _ _ _ _ _,slv _ _ _ _ _ _]) (.inl rfl) Zu rfl rfl Zh Zrf Zrf ?_;rw[hsT _ _ hm1 hm2];exact⟨⟨A,cc,A3,c3,A4,c4⟩,rfl,rfl⟩):P:=h
theorem Wq8(h:Q)(f:Zwr Q→P:=by intro y9;refine Zy (cX Zv0 Zv0 Zl) ?_;refine Z_2 ?_;exact y9.1):P:=f ⟨h⟩
theorem Wq9(h:Q)(f:Zwr Q→P:=by intro y9;refine Z_5 ?_;refine ZM ?_;refine Z_3 ?_;refine bN [row b2 _ _,slv 294 5 A c.length cc (c.flatMap II.cells),sl .i64 3 A3 (dG pl p.Jw).length c3 (dG pl p.Jw),sl .i64 3 A4 (dG pl p.Jx).length c4 (dG pl p.Jx)] Zj ?_;refine lP (cs':=[slv _ _ _ _ _ _,slv _ _ _ _ _ _,slv _ _ _ _ _ _]) (.inl rfl) Zu rfl rfl Zh Zrf Zrf ?_;exact y9.1):P:=f ⟨h⟩
theorem Cu(h:P:=by refine dD (eA Zrf rfl rfl rfl Za (by simp[ints,hR])) ?_;rintro _ _ ⟨rfl,rfl⟩;rw[Ez (by simp[hR])];refine Z_8 ?_;refine Zrb ([row _ _ _,slv _ _ _ _ _ _,slv _ _ _ _ _ _]) ?_;exact⟨rfl,rfl⟩):P:=h
theorem kg(h:Q)(f:Zwr Q→P:=by intro y9;refine AU rfl (bO Zrf Zv0) (cB Zh rfl) rfl ?_;exact y9.1):P:=f ⟨h⟩
theorem jh(h:Q)(f:Zwr Q→P:=by intro y9;refine rc (cs':=[]) (.inl rfl) Zu rfl rfl rfl ?_;exact y9.1):P:=f ⟨h⟩
theorem ku(h:Q)(f:Zwr Q→P:=by intro y9;refine fb (io rfl rfl Zrf Zrf rfl rfl) rfl ?_;exact y9.1):P:=f ⟨h⟩
theorem nE(h:Q)(f:Zwr Q→P:=by intro y9;refine fF ?_;refine ret4 (cs':=[]) (.inl rfl) Zu rfl rfl rfl rfl rfl ?_;exact y9.1):P:=f ⟨h⟩
theorem Wq15(h:Q)(f:Zwr Q→P:=by intro y9;refine dZ (bZ rfl rfl) rfl rfl ?_;refine dZ (bZ rfl rfl) rfl rfl ?_;refine dZ (bZ rfl rfl) rfl rfl ?_;refine dZ (bZ rfl rfl) rfl rfl ?_;exact y9.1):P:=f ⟨h⟩
theorem g9(h:P:=by simp only[maxLen];omega):P:=h
theorem Cm(h:Q)(f:Zwr Q→P:=by intro y9;refine rc (cs':=[row _ _ _,row _ _ _,row _ _ _,row _ _ _,slv _ _ _ _ _ _,slv _ _ _ _ _ _,row _ _ _,slv _ _ _ _ _ _]) (.inl rfl) Zu rfl rfl rfl ?_;exact y9.1):P:=f ⟨h⟩
theorem Wq18(h:Q)(f:Zwr Q→P:=by intro y9;refine ZQ ?_;refine qM Zk ?_;refine Z_5 ?_;refine ZM ?_;refine Z_4 ?_;exact y9.1):P:=f ⟨h⟩
theorem vE(h:P:=by refine Zrb ([row _ _ _,slv _ _ _ _ _ _,slv _ _ _ _ _ _]) ?_;rw[hst];exact⟨⟨_,_,_,_⟩,rfl,rfl⟩):P:=h
theorem df(h:P:=by exact⟨rfl,rfl⟩):P:=h
theorem cJ(h:P:=by simp):P:=h
theorem FH(h:Q)(f:Zwr Q→P:=by intro y9;refine cT rfl (fP Zv0) rfl ?_;refine cT rfl (fX Zv0 (.zero _ _)) rfl ?_;refine cT rfl (fX Zv0 (.succ _ (.zero _ _))) rfl ?_;exact y9.1):P:=f ⟨h⟩
theorem sF(h:P:=by first|exact IntWalk.u64_in _ ⟨by omega,by omega⟩|exact rfl):P:=h
theorem xC(h:P:=by first|omega|(simp only[ae,aj,ao];omega)):P:=h
theorem Cl(h:Q)(f:Zwr Q→P:=by intro y9;refine Zrb ([row _ _ _,row _ _ _,row _ _ _,row _ _ _,slv _ _ _ _ _ _,slv _ _ _ _ _ _,row _ _ _,slv _ _ _ _ _ _,exC _ _ _ _]) ?_;exact y9.1):P:=f ⟨h⟩
theorem nA(h:P:=by simp only[bS, *,ac,aa];exact rfl):P:=h
theorem sB(h:Q)(f:Zwr Q→P:=by intro y9;refine dL (bO Zrf (Zv rfl)) (cS (by assumption) rfl) rfl ?_;exact y9.1):P:=f ⟨h⟩
theorem FU(h:Q)(f:Zwr Q→P:=by intro y9;refine ZL ?_;refine Z_6 ?_;refine ZM ?_;refine Z_4 ?_;refine kV (cs':=[slv _ _ _ _ _ _,slv _ _ _ _ _ _]) (.inl rfl) Zu rfl rfl rfl Zh Zrf Zrf ?_;exact y9.1):P:=f ⟨h⟩
theorem gn(h:Q)(f:Zwr Q→P:=by intro y9;refine ZE 0 ?_;refine ZE 1 ?_;exact y9.1):P:=f ⟨h⟩
theorem Wq30(h:P:=by refine ZE 4 ?_;refine qM Zk ?_;refine Z_3 ?_;refine bN (row b6 (BA.cells y) 186::row b7 (RS.cells x2) 105::baC y::enF be E) Zj ?_;refine od (cs':=baC y::enF be E) (.inl rfl) (List.Sublist.cons _ (List.Sublist.cons _ (aQ _))) rfl rfl rfl rfl Zh Zh Zrf Zrf Zrf Zrf ?_;exact⟨E,hE,by rw[hfn],by rw[hfn];exact⟨y,x2,rfl,rfl,fun _ _ e=>nomatch e⟩⟩):P:=h
theorem fG(h:Q)(f:Zwr Q→P:=by intro y9;refine Z_8 ?_;refine Zra ?_;exact y9.1):P:=f ⟨h⟩
theorem gx(h:Q)(f:Zwr Q→P:=by intro y9;refine dw rfl (rfl) ?_;exact y9.1):P:=f ⟨h⟩
theorem kw(h:P:=by as_aux_lemma=>kernel_rfl):P:=h
theorem Wq34(h:P:=by refine ZcL (eh (kOf br bu D) X ((R.wd l).wt ⟨ca,ad⟩)) (fun w hi hin=>iG (kOf br bu D) X ((R.wd l).wt ⟨ca,ad⟩) _ 1 1 [v] (show l.length+1≤1000000 by omega) w hin (fun w' hk=>hi.J8 Zi Zh hk)) ?_;rintro _ _ ⟨_,⟨A',c',rfl,rfl⟩,rfl⟩;refine Z_2 ?_;refine bN (eh (kOf br bu D) ⟨A',c',X.Ar,X.cr⟩ (((R.wd l).wt ⟨ca,ad⟩).wd (l++[v]))++uF bu bb L U') Zj ?_;refine iF (cs':=[row _ _ _,slv _ _ _ _ _ _,slv _ _ _ _ _ _,row _ _ _,exC _ _ _ _,row _ _ _]) (.inr rfl) Zu rfl ?_;exact⟨⟨A',c',X.Ar,X.cr⟩,rfl,rfl⟩):P:=h
theorem Ct(h:P:=by first|omega|(simp only[hl1,ae,aj,ao];omega)):P:=h
theorem Jh(h:P:=by exact⟨⟨show i+1≤60 by omega,u8s_app ho1 hE1,show(o++E).length≤15*(i+1) by rw[ae];omega⟩,show 60 - (i+1)<60 - i by omega⟩):P:=h
theorem sA(h:P:=by simp only[uX, *,ac,aa];exact rfl):P:=h
theorem nD(h:P:=by simp only[tQ, *,ac,aa]):P:=h
theorem Wq39(h:P:=by refine nk (cin:=rnC E.RZ) (cin':=pQ E.RZ k) Zd (tA E.RZ k) ?_;refine jL (cin:=pQ E.RZ k) (c:=rsC x2) (cin':=rnC (dB E.RZ k x2)) Zd Zd (rnPut E.RZ k x2) ?_;refine bN (row b6 (BA.cells ⟨⟨k,C,(l.length:Int)⟩,A3,c3⟩) 186::row b7 (RS.cells x2) 105::baC ⟨⟨k,C,(l.length:Int)⟩,A3,c3⟩::enF be ((E.JO X').JU (dB E.RZ k x2))) Zj ?_;refine od (cs':=baC ⟨⟨k,C,(l.length:Int)⟩,A3,c3⟩::enF be ((E.JO X').JU (dB E.RZ k x2))) (.inl rfl) (List.Sublist.cons _ (List.Sublist.cons _ (aQ _))) rfl rfl rfl rfl Zh Zh Zrf Zrf Zrf Zrf ?_;rw[hfm]at HG⊢;exact⟨(E.JO X').JU (dB E.RZ k x2),⟨hX',by rw[had];exact HG.1,fun y hy=>(qp hy).elim (fun e=>by rw[e];exact hnew) (fun hy=>hE.rs y hy),hE.last⟩,had,⟨⟨⟨k,C,(l.length:Int)⟩,A3,c3⟩,x2,rfl,rfl,fun t r e=>by cases e;exact⟨rfl,hx2⟩⟩⟩):P:=h
theorem Wq40(h:Q)(f:Zwr Q→P:=by intro y9;refine bR ⟨fun j=>List.elem j [],[]⟩ Zk ?_;refine ZE 0 ?_;exact y9.1):P:=f ⟨h⟩
theorem vD(h:Q)(f:Zwr Q→P:=by intro y9;refine iZ rfl rfl (io rfl rfl Zrf Zrf rfl rfl) ZJ rfl ?_;exact y9.1):P:=f ⟨h⟩
theorem Wq42(h:P:=by refine Z_6 ?_;refine ZM ?_;refine Z_3 ?_;refine lP (cs':=[]) (.inl rfl) Zu rfl rfl Zh Zrf Zrf ?_;exact⟨⟨_,_,rfl,(by first|exact u0|exact hxu|exact hI Wq1),hop⟩,rfl⟩):P:=h
theorem dr(h:Q)(f:Zwr Q→P:=by intro y9;refine qM Zk ?_;exact y9.1):P:=f ⟨h⟩
end
abbrev Fr:=List (Nat×Value)
def look:Fr→Nat→Option Value
 |[],_=>none
 |(k,v)::fr,t=>bif Nat.beq k t then some v else look fr t
structure oR(N:Nat)(fr:Fr)(a:Act):Prop where
 size:a.tmps.size=N
 defs:a.defers=[]
 at_:∀t v,look fr t=some v→a.tmps.getD t undef=v
theorem oR.put{N d:Nat}{fr:Fr}{a:Act}(h:oR N fr a)(hd:d<N)(v:Value):oR N ((d,v)::fr) (a.put (some d) v):=by
 refine⟨by simp[Act.put,h.size],h.defs,fun t u hl=>?_⟩
 simp only[look]at hl
 by_cases e:d=t
 ·subst e
  simp only[Nat.beq_refl,ac,aR]at hl
  subst hl
  have:d<a.tmps.size:=by rw[h.size];exact hd
  simp[Act.put,this]
 have e':Nat.beq d t=false:=by cases h':Nat.beq d t with|false=>rfl|true=>exact absurd (bG h') e
 rw[e']at hl
 simp only[aa]at hl
 have:=h.at_ t u hl
 simp only[Act.put,aX]at this⊢
 rw[Array.getElem?_setIfInBounds_ne e]
 exact this
def ev(fr:Fr):Operand→Option Value
 | .tmp t=>look fr t
 | .const v=>some v
 | .global g=>some (.pointer (some ⟨g,0,none⟩))
 | .func f=>some (.func (.func f) #[] #[])
theorem oR.ev{N:Nat}{fr:Fr}{a:Act}(h:oR N fr a){x:Operand}{v:Value}(he:ev fr x=some v):a.eval x=v:=by
 cases x with
 |tmp t=>exact h.at_ t v he
 |const u=>exact aD he
 |global g=>exact aD he
 |func f=>exact aD he
def Ev(fr:Fr)(g:Bool)(x:Operand)(v:Value):Prop:=∃u,ev fr x=some u∧(g=true→u=v)
theorem Ev.eval{N:Nat}{fr:Fr}{g:Bool}{a:Act}{x:Operand}{v:Value}(h:Ev fr g x v)(hf:oR N fr a)(hg:g=true):a.eval x=v:=by
 obtain⟨u,hu,e⟩:=h
 rw[←e hg]
 exact hf.ev hu
def Wk(fr':Fr):Fr→Prop
 |[]=>True
 |(t,v)::fr=>look fr' t=some v∧Wk fr' fr
theorem Wk.look{fr':Fr}:∀{fr:Fr} {t:Nat} {v:Value},Wk fr' fr→look fr t=some v→Ink.look fr' t=some v
 |[],_,_,_,h=>by cases h
 |(k,u)::fr,t,v,hw,h=>by
  simp only[Ink.look]at h
  by_cases e:k=t
  ·subst e
   simp only[Nat.beq_refl,ac,aR]at h
   subst h
   exact hw.1
  have e':Nat.beq k t=false:=by cases h':Nat.beq k t with|false=>rfl|true=>exact absurd (bG h') e
  rw[e']at h
  exact Wk.look hw.2 h
theorem oR.weaken{N:Nat}{fr fr':Fr}{a:Act}(h:oR N fr' a)(hw:Wk fr' fr):oR N fr a:=
 ⟨h.size,h.defs,fun t v hl=>h.at_ t v (hw.look hl)⟩
def ab:Option Addr→List Nat
 |some a=>[a.block]
 |none=>[]
inductive bJ where
 |row (b:Nat) (xs:List Value) (t:TypeId)
 |slv (e sz:Nat) (A:Option Addr) (n c:Nat) (xs:List Value)
 |gen (bs:List Nat) (ok:World→Prop) (loc:∀w w':World,(∀b,b∈bs→w'.heap[b]? =w.heap[b]?)→ok w→ok w') (lt:∀w:World,ok w→∀b,b∈bs→b<w.heap.size)
abbrev row(b:Nat)(xs:List Value)(t:TypeId):bJ:= .row b xs t
abbrev slv(e sz:Nat)(A:Option Addr)(n c:Nat)(xs:List Value):bJ:= .slv e sz A n c xs
def bJ.bs:bJ→List Nat
 | .row b _ _=>[b]
 | .slv _ _ A _ _ _=>ab A
 | .gen bs _ _ _=>bs
def bJ.ok:bJ→World→Prop
 | .row b xs t,w=>w.heap[b]? =some (.cells xs.toArray t (0,0))
 | .slv e sz A n c xs,w=>w.ownsRow 0 e sz (.slice A n c) n xs
 | .gen _ ok _ _,w=>ok w
theorem bJ.loc(c:bJ)(w w':World)(h:∀b,b∈c.bs→w'.heap[b]? =w.heap[b]?)(hk:c.ok w):c.ok w':=by
 match c,h,hk with
 | .row b xs t,h,hk=>
  show w'.heap[b]? =_
  rw[h b (by simp[bJ.bs])]
  exact hk
 | .slv e sz A n c xs,h,hk=>
  obtain⟨h1,h2⟩:=hk
  refine⟨h1,?_⟩
  rcases h2 with h2|⟨g,cap,cur,hv,hg,hh,r⟩
  ·exact .inl h2
  refine .inr ⟨g,cap,cur,hv,hg,?_,r⟩
  injection hv with hA
  subst hA
  rw[h g (by simp[bJ.bs,ab])]
  exact hh
 | .gen bs ok loc lt,h,hk=>exact loc w w' h hk
theorem bJ.lt(c:bJ)(w:World)(hk:c.ok w):∀b,b∈c.bs→b<w.heap.size:=by
 match c,hk with
 | .row b xs t,hk=>
  intro x hx
  simp only[bJ.bs,aL]at hx
  subst hx
  have hk:w.heap[x]? =_:=hk
  exact(Array.getElem?_eq_some_iff.1 hk).1
 | .slv e sz A n c xs,hk=>
  intro b hb
  obtain⟨h1,h2⟩:=hk
  rcases h2 with⟨hv,_⟩|⟨g,cap,cur,hv,hg,hh,r⟩
  ·injection hv with hA
   subst hA
   simp[bJ.bs,ab]at hb
  injection hv with hA
  subst hA
  simp only[bJ.bs,ab,aL]at hb
  subst hb
  exact(Array.getElem?_eq_some_iff.1 hh).1
 | .gen bs ok loc lt,hk=>exact lt w hk
structure dC(S:List Nat)(w w':World):Prop where
 os:w'.os=w.os
 tape:w'.tape=w.tape
 output:w'.output=w.output
 size:w.heap.size≤w'.heap.size
 block:∀b,b<w.heap.size→b∉S→w'.heap[b]? =w.heap[b]?
theorem dC.refl(S:List Nat)(w:World):dC S w w:=⟨rfl,rfl,rfl,aN _,fun _ _ _=>rfl⟩
theorem dC.J6{w w':World}(h:Below w.heap.size w w')(S:List Nat):dC S w w':=⟨h.os,h.tape,h.output,h.size,fun b hb _=>h.block b hb⟩
theorem dC.below{w w':World}(h:dC [] w w'):Below w.heap.size w w':=⟨h.os,h.tape,h.output,h.size,fun b hb=>h.block b hb cJ⟩
def bK(cs:List bJ):List Nat:=cs.flatMap bJ.bs
structure Inv(w0:World)(S:List Nat)(cs:List bJ)(w:World):Prop where
 JJ:dC S w0 w
 nodup:(bK cs).Nodup
 ok:∀c,c∈cs→c.ok w
 own:∀b,b∈bK cs→b∈S∨w0.heap.size≤b
theorem dc{cs:List bJ}{b:Nat}:b∈bK cs↔∃c,c∈cs∧b∈c.bs:=by simp[bK,List.mem_flatMap]
theorem Inv.lt{w0 w:World}{S:List Nat}{cs:List bJ}(h:Inv w0 S cs w):∀b,b∈bK cs→b<w.heap.size:=by
 intro b hb
 obtain⟨c,hc,hbc⟩:=dc.1 hb
 exact c.lt w (h.ok c hc) b hbc
theorem fO(xs ys:List bJ):bK (xs++ys)=bK xs++bK ys:=by simp[bK]
theorem dV(c:bJ)(ys:List bJ):bK (c::ys)=c.bs++bK ys:=by simp[bK]
theorem ug:bK []=[]:=rfl
theorem Inv.step{w0 w w':World}{S:List Nat}{cs cs' cin rest cout:List bJ}(h:Inv w0 S cs w)(hp:cs.Perm (cin++rest))(hp':cs'.Perm (cout++rest))
  (hk:dC (bK cin) w w') (hout:Inv w (bK cin) cout w'):Inv w0 S cs' w':=by
 have hpb:∀b,b∈bK cs↔b∈bK cin∨b∈bK rest:=fun b=>by
  rw[dc]
  simp only[hp.mem_iff,aS,dc]
  constructor
  ·rintro⟨c,hc|hc,hb⟩
   ·exact .inl ⟨c,hc,hb⟩
   exact .inr ⟨c,hc,hb⟩
  rintro(⟨c,hc,hb⟩|⟨c,hc,hb⟩)
  ·exact⟨c,.inl hc,hb⟩
  exact⟨c,.inr hc,hb⟩
 have hnd:(bK cin++bK rest).Nodup:=by
  rw[←fO]
  exact((hp.flatMap_right bJ.bs).nodup_iff).1 h.nodup
 obtain⟨hn1,hn2,hn3⟩:=List.nodup_append.1 hnd
 have hlt:=h.lt
 have hrest:∀c,c∈rest→c.ok w':=fun c hc=>by
  refine c.loc w w' (fun b hb=>hk.block b ?_ ?_) (h.ok c (hp.mem_iff.2 (aS.2 (.inr hc))))
  ·exact hlt b ((hpb b).2 (.inr (dc.2 ⟨c,hc,hb⟩)))
  exact fun hin=>hn3 b hin b (dc.2 ⟨c,hc,hb⟩) rfl
 have hmem':∀c,c∈cs'↔c∈cout∨c∈rest:=fun c=>by rw[hp'.mem_iff,aS]
 refine⟨⟨hk.os.trans h.JJ.os,hk.tape.trans h.JJ.tape,hk.output.trans h.JJ.output,aV h.JJ.size hk.size,fun b hb hS=>?_⟩,?_,?_,?_⟩
 ·refine(hk.block b (Nat.lt_of_lt_of_le hb h.JJ.size) (fun hin=>?_)).trans (h.JJ.block b hb hS)
  rcases h.own b ((hpb b).2 (.inl hin))with h1|h1
  ·exact hS h1
  omega
 ·have:(bK cout++bK rest).Nodup:=by
   refine List.nodup_append.2 ⟨hout.nodup,hn2,fun x hx y hy=>?_⟩
   rintro rfl
   rcases hout.own x hx with h1|h1
   ·exact hn3 x h1 x hy rfl
   exact absurd (hlt x ((hpb x).2 (.inr hy))) Wq1
  rw[←fO]at this
  exact((hp'.flatMap_right bJ.bs).nodup_iff).2 this
 ·intro c hc
  rcases(hmem' c).1 hc with hc|hc
  ·exact hout.ok c hc
  exact hrest c hc
 intro b hb
 obtain⟨c,hc,hbc⟩:=dc.1 hb
 rcases(hmem' c).1 hc with hc|hc
 ·rcases hout.own b (dc.2 ⟨c,hc,hbc⟩)with h1|h1
  ·exact h.own b ((hpb b).2 (.inl h1))
  exact .inr (aV h.JJ.size h1)
 exact h.own b ((hpb b).2 (.inr (dc.2 ⟨c,hc,hbc⟩)))
theorem Inv.more{w0 w w':World}{S:List Nat}{cs news:List bJ}(h:Inv w0 S cs w)(hout:Inv w [] news w'):Inv w0 S (cs++news) w':=
 h.step (cin:=[]) (rest:=cs) (cout:=news) (List.Perm.refl _) List.perm_append_comm hout.JJ hout
theorem kk{cs cs':List bJ}(h:cs'.Sublist cs):(bK cs').Sublist (bK cs):=by
 induction h with
 |slnil=>exact aQ _
 |cons c _ ih=>rw[dV];exact ih.trans (List.sublist_append_right _ _)
 |cons_cons c _ ih=>rw[dV,dV];exact(aQ _).append ih
theorem Inv.drop{w0 w:World}{S:List Nat}{cs cs':List bJ}(h:Inv w0 S cs w)(hs:cs'.Sublist cs):Inv w0 S cs' w:=
 ⟨h.JJ,(kk hs).nodup h.nodup,fun c hc=>h.ok c (hs.subset hc),fun b hb=>h.own b ((kk hs).subset hb)⟩
inductive Upd:List bJ→bJ→bJ→List bJ→Prop
 |head (c c':bJ) (cs:List bJ):Upd (c::cs) c c' (c'::cs)
 |tail (d:bJ) {cs cs':List bJ} {c c':bJ} (h:Upd cs c c' cs'):Upd (d::cs) c c' (d::cs')
theorem Upd.perm{cs cs':List bJ}{c c':bJ}(h:Upd cs c c' cs'):∃rest,cs.Perm ([c]++rest)∧cs'.Perm ([c']++rest)∧c∈cs:=by
 induction h with
 |head c c' cs=>exact⟨cs,.refl _,.refl _,by simp⟩
 |tail d _ ih=>
  obtain⟨rest,h1,h2,h3⟩:=ih
  exact⟨d::rest,(h1.cons d).trans (List.perm_middle (l₁:=[_])).symm,(h2.cons d).trans (List.perm_middle (l₁:=[_])).symm,bC _ h3⟩
theorem Inv.upd{w0 w w':World}{S:List Nat}{cs cs':List bJ}{c c':bJ}(h:Inv w0 S cs w)(hu:Upd cs c c' cs')(hk:dC c.bs w w')(hout:Inv w c.bs [c'] w'):Inv w0 S cs' w':=by
 obtain⟨rest,h1,h2,h3⟩:=hu.perm
 have e:bK [c]=c.bs:=by simp[bK]
 exact h.step h1 h2 (by rw[e];exact hk) (by rw[e];exact hout)
inductive Has:List bJ→bJ→Prop
 |head (c:bJ) (cs:List bJ):Has (c::cs) c
 |tail (d:bJ) {cs:List bJ} {c:bJ} (h:Has cs c):Has (d::cs) c
theorem Has.mem{cs:List bJ}{c:bJ}(h:Has cs c):c∈cs:=by
 induction h with
 |head=>simp
 |tail d _ ih=>exact bC _ ih
theorem Inv.get{w0 w:World}{S:List Nat}{cs:List bJ}{c:bJ}(h:Inv w0 S cs w)(hc:Has cs c):c.ok w:=h.ok c hc.mem
theorem vi(w:World)(o:Obj):(w.alloc o).heap[w.heap.size]? =some o:=heap_alloc_new w o
theorem Inv.alloc{w0 w:World}{S:List Nat}{cs:List bJ}(h:Inv w0 S cs w)(xs:List Value)(t:TypeId):Inv w0 S (cs++[row w.heap.size xs t]) (w.alloc (.cells xs.toArray t)):=by
 refine h.more ⟨dC.J6 ((Below.refl _ _).alloc (aN _) _) _,by simp[bK,row,bJ.bs],?_,?_⟩
 ·intro c hc
  simp only[aL]at hc
  subst hc
  exact vi w _
 intro b hb
 simp[bK,row,bJ.bs]at hb
 omega
theorem Inv.drew{w0 w:World}{S:List Nat}{cs:List bJ}(h:Inv w0 S cs w):Inv w0 S cs w.drew:=
 ⟨⟨h.JJ.os,h.JJ.tape,h.JJ.output,h.JJ.size,h.JJ.block⟩,h.nodup,fun c hc=>c.loc w _ (fun _ _=>rfl) (h.ok c hc),h.own⟩
theorem Inv.cell{w0 w:World}{S:List Nat}{cs:List bJ}{b:Nat}{xs:List Value}{t:TypeId}(h:Inv w0 S cs w)(hc:Has cs (row b xs t))(j:Nat):w.cell? ⟨b,j,none⟩=xs[j]? :=by
 have:w.heap[b]? =some (.cells xs.toArray t (0,0)):=h.get hc
 simp[World.cell?,this]
theorem Inv.free{w0 w:World}{S:List Nat}{cs:List bJ}{b:Nat}{xs:List Value}{t:TypeId}(h:Inv w0 S cs w)(hc:Has cs (row b xs t))(j:Nat):w.frozen? ⟨b,j,none⟩=false:=by
 have:w.heap[b]? =some (.cells xs.toArray t (0,0)):=h.get hc
 simp[World.frozen?,this]
theorem Upd.has{cs cs':List bJ}{c c':bJ}(h:Upd cs c c' cs'):Has cs c:=by
 induction h with
 |head=>exact .head _ _
 |tail d _ ih=>exact .tail d ih
theorem Inv.set{w0 w:World}{S:List Nat}{cs cs':List bJ}{b:Nat}{xs:List Value}{t:TypeId}(h:Inv w0 S cs w)(j:Nat)(v:Value)(hu:Upd cs (row b xs t) (row b (xs.set j v) t) cs'):Inv w0 S cs' (w.setCell ⟨b,j,none⟩ v):=by
 have hg:w.heap[b]? =some (.cells xs.toArray t (0,0)):=h.get hu.has
 have hlt:b<w.heap.size:=(Array.getElem?_eq_some_iff.1 hg).1
 refine h.upd hu ⟨rfl,rfl,rfl,by simp[World.setCell],fun k _ hk=>?_⟩ ⟨⟨rfl,rfl,rfl,by simp[World.setCell],fun k _ hk=>?_⟩,by simp[bK,row,bJ.bs],?_,?_⟩
 ·exact Below.heap_setCell w _ v k (by simpa[row,bJ.bs]using hk)
 ·exact Below.heap_setCell w _ v k (by simpa[row,bJ.bs]using hk)
 ·intro c hc
  simp only[aL]at hc
  subst hc
  show(w.setCell ⟨b,j,none⟩ v).heap[b]? =_
  simp[World.setCell,Array.getElem?_modify,hg]
 intro k hk
 left
 simpa[bK,row,bJ.bs]using hk
structure Cx where
 P:Program
 N:Nat
 w0:World
 S:List Nat
abbrev kM:=Exit→Act→World→Prop
def QOk(C:Cx)(Q:kM)(e:Exit)(fr:Fr)(cs:List bJ):Prop:=∀a w,oR C.N fr a→Inv C.w0 C.S cs w→Q e a w
def WC(C:Cx)(c:Code)(Q:kM)(fr:Fr)(cs:List bJ):Prop:=∀a w,oR C.N fr a→Inv C.w0 C.S cs w→c.wp C.P Q a w
def WL(C:Cx)(ops:Array Oper)(Q:kM)(rest:List Oper)(fr:Fr)(cs:List bJ):Prop:=∀a w,oR C.N fr a→Inv C.w0 C.S cs w→wpList C.P ops Q rest a w
section
variable {C:Cx} {Q:kM} {fr:Fr} {cs:List bJ} {x y c:Code} {id id':Nat} {K:Act→World→Prop}
theorem wc_seq(h:WC C x (Exit.then (y.wp C.P Q) Q) fr cs):WC C (.seq x y) Q fr cs:=fun a w hf hi=>wp_seq (h a w hf hi)
theorem wc_skip(h:QOk C Q .normal fr cs):WC C .skip Q fr cs:=fun a w hf hi=>wp_skip (h a w hf hi)
theorem wc_ret(h:QOk C Q .ret fr cs):WC C .ret Q fr cs:=fun a w hf hi=>wp_ret (h a w hf hi)
theorem wc_exit(h:QOk C Q (.exit id) fr cs):WC C (.exit id) Q fr cs:=fun a w hf hi=>wp_exit (h a w hf hi)
theorem F3(h:WC C c (Exit.inBlock id Q) fr cs):WC C (.block id c) Q fr cs:=fun a w hf hi=>wp_block (h a w hf hi)
theorem xQ{o:Operand}(b:Bool)(hc:ev fr o=some (.bool b))(ht:b=true→WC C x Q fr cs)(hf:b=false→WC C y Q fr cs):WC C (.cond o x y) Q fr cs:=
 fun a w hfr hi=>wp_cond_split (hfr.ev hc) (fun h=>ht h a w hfr hi) (fun h=>hf h a w hfr hi)
theorem bU{o:Operand}{b:Bool}(hc:ev fr o=some (.bool b))(hb:b=true)(h:WC C x Q fr cs):WC C (.cond o x y) Q fr cs:=xQ b hc (fun _=>h) (fun h=>by rw[hb]at h;cases h)
theorem dw{o:Operand}{b:Bool}(hc:ev fr o=some (.bool b))(hb:b=false)(h:WC C y Q fr cs):WC C (.cond o x y) Q fr cs:=xQ b hc (fun h=>by rw[hb]at h;cases h) (fun _=>h)
theorem CG{l:List Oper}(h:WL C l.toArray Q l fr cs):WC C (.region id l.toArray false) Q fr cs:=fun a w hf hi=>wp_region_lit (h a w hf hi)
theorem wl_nil{ops:Array Oper}(h:QOk C Q .normal fr cs):WL C ops Q [] fr cs:=h
theorem q_then(h:WC C y Q fr cs):QOk C (Exit.then (y.wp C.P Q) Q) .normal fr cs:=h
theorem q_then_ret(h:QOk C Q .ret fr cs):QOk C (Exit.then K Q) .ret fr cs:=h
theorem yf(h:QOk C Q (.exit id) fr cs):QOk C (Exit.then K Q) (.exit id) fr cs:=h
theorem q_block(h:QOk C Q .normal fr cs):QOk C (Exit.inBlock id Q) .normal fr cs:=h
theorem q_block_ret(h:QOk C Q .ret fr cs):QOk C (Exit.inBlock id Q) .ret fr cs:=h
theorem wm(he:Nat.beq id' id=true)(h:QOk C Q .normal fr cs):QOk C (Exit.inBlock id Q) (.exit id') fr cs:=fun a w hf hi=>by
 simp only[Exit.inBlock,bG he,if_true]
 exact h a w hf hi
theorem uR(he:Nat.beq id' id=false)(h:QOk C Q (.exit id') fr cs):QOk C (Exit.inBlock id Q) (.exit id') fr cs:=fun a w hf hi=>by
 have:id'≠id:=fun e=>by subst e;simp at he
 simp only[Exit.inBlock,this,if_false]
 exact h a w hf hi
def Mid(C:Cx){σ:Type}(F:σ→Fr)(G:σ→List bJ)(ok:σ→Prop)(a:Act)(w:World):Prop:=∃s,ok s∧oR C.N (F s) a∧Inv C.w0 C.S (G s) w
theorem cW{σ:Type}(F:σ→Fr)(G:σ→List bJ)(ok:σ→Prop)(h:WC C x (Exit.then (Mid C F G ok) Q) fr cs)(h':∀s,ok s→WC C y Q (F s) (G s)):WC C (.seq x y) Q fr cs:=
 fun a w hf hi=>wp_seq (wp_mono (h a w hf hi) fun e a' w' q=>by
  cases e with
  |normal=>obtain⟨s,ho,hf',hi'⟩:=q;exact h' s ho a' w' hf' hi'
  |_=>exact q)
theorem dM{σ:Type}{F:σ→Fr}{G:σ→List bJ}{ok:σ→Prop}(s:σ)(ho:ok s)(hf:Wk fr (F s))(hg:(G s).Sublist cs):QOk C (Exit.then (Mid C F G ok) Q) .normal fr cs:=
 fun _ _ hfr hi=>⟨s,ho,hfr.weaken hf,hi.drop hg⟩
theorem cw{σ:Type}(F:σ→Fr)(G:σ→List bJ)(ok:σ→Prop)(μ:σ→Nat)(s0:σ)(h0:ok s0)(hf:Wk fr (F s0))(hg:(G s0).Sublist cs)
  (round:∀s,ok s→WC C c (Exit.then (Mid C F G fun s'=>ok s'∧μ s'<μ s) Q) (F s) (G s)):WC C (.loop c) Q fr cs:=by
 have key:∀n s,μ s=n→ok s→∀a w,oR C.N (F s) a→Inv C.w0 C.S (G s) w→∀(b:Frame) (k:List Item) (cs':List Frame),
   ∃e a' w',Q e a' w'∧Arrives C.P (lone (b.at a (.code c:: .inLoop c::k)) cs' w) b k cs' e a' w':=by
  intro n
  induction n using Nat.strongRecOn with
  |_ n ih=>
   intro s hn hok a w hfr hi b k cs'
   obtain⟨e,a₁,w₁,hq,harr⟩:=round s hok a w hfr hi b (.inLoop c::k) cs'
   cases e with
   |normal=>
    obtain⟨s',⟨hok',hlt⟩,hf',hi'⟩:=hq
    obtain⟨e₂,a₂,w₂,hq₂,harr₂⟩:=ih (μ s') (hn▸hlt) s' rfl hok' a₁ w₁ hf' hi' b k cs'
    exact⟨e₂,a₂,w₂,hq₂,.of_steps (Steps.trans harr (.one step_inLoop)) harr₂⟩
   |exit id=>exact⟨_,a₁,w₁,hq,.pass (x:= .inLoop c) rfl (fun _ _=> .inl cJ) harr⟩
   |goto l=>exact⟨_,a₁,w₁,hq,.pass (x:= .inLoop c) rfl (fun _ _=> .inl cJ) harr⟩
   |ret=>exact⟨_,a₁,w₁,hq,.pass (x:= .inLoop c) rfl (fun _ _=> .inl cJ) harr⟩
   |panic ch=>exact⟨_,a₁,w₁,hq,.pass (x:= .inLoop c) rfl (fun _ _=> .inl cJ) harr⟩
   |outgrown=>exact⟨_,a₁,w₁,hq,.pass (x:= .inLoop c) rfl (fun _ _=> .inl cJ) harr⟩
 intro a w hfr hi b k cs'
 obtain⟨e,a',w',hq,harr⟩:=key _ s0 rfl h0 a w (hfr.weaken hf) (hi.drop hg) b k cs'
 exact⟨e,a',w',hq,.of_steps (.one step_loop) harr⟩
end
def bP(ops:Array Oper)(fr:Fr)(o:Oper)(g:Bool):Prop:=∀N a,oR N fr a→Region.wanted o (yielded ops a.tmps)=g
theorem fy{ops:Array Oper}{fr:Fr}{d:Option Tmp}{op:Op}{ty:TypeId}{pos:String}{af:Array Edge}:bP ops fr ⟨d,op,ty,pos,af,none⟩ true:=fun _ _ _=>rfl
theorem sV{N:Nat}{ops:Array Oper}{fr:Fr}{a:Act}{j d:Nat}{v:Value}(hf:oR N fr a)(hd:(ops[j]?).bind (·.dst)=some d)(hl:look fr d=some v):
  yielded ops a.tmps j=(match v with| .bool b=>some b|_=>none):=by
 have h:=hf.at_ d v hl
 unfold yielded
 rw[hd]
 simp only[Option.bind_some]
 rw[aX]at h
 cases hg:a.tmps[d]? with
 |none=>rw[hg]at h;simp only[Option.getD_none]at h;subst h;rfl
 |some u=>rw[hg]at h;simp only[Option.getD_some]at h;subst h;cases u<;>rfl
theorem tR{ops:Array Oper}{fr:Fr}{dd:Option Tmp}{op:Op}{ty:TypeId}{pos:String}{af:Array Edge}{j d:Nat}{want b:Bool}
  (hd:(ops[j]?).bind (·.dst)=some d) (hl:look fr d=some (.bool b)):bP ops fr ⟨dd,op,ty,pos,af,some (j,want)⟩ (b==want):=fun N a hf=>by
 unfold Region.wanted
 simp only[sV hf hd hl]
 cases b<;>cases want<;>rfl
theorem bZ{ops:Array Oper}{fr:Fr}{dd:Option Tmp}{op:Op}{ty:TypeId}{pos:String}{af:Array Edge}{j d:Nat}{b:Bool}
  (hd:(ops[j]?).bind (·.dst)=some d) (hl:look fr d=some (.bool b)):bP ops fr ⟨dd,op,ty,pos,af,some (j,true)⟩ b:=fun N a hf=>by
 rw[tR hd hl N a hf]
 cases b<;>rfl
theorem cq{ops:Array Oper}{fr:Fr}{dd:Option Tmp}{op:Op}{ty:TypeId}{pos:String}{af:Array Edge}{j d:Nat}{b:Bool}
  (hd:(ops[j]?).bind (·.dst)=some d) (hl:look fr d=some (.bool b)):bP ops fr ⟨dd,op,ty,pos,af,some (j,false)⟩ (!b):=fun N a hf=>by
 rw[tR hd hl N a hf]
 cases b<;>rfl
theorem dU{ops:Array Oper}{fr:Fr}{dd:Option Tmp}{op:Op}{ty:TypeId}{pos:String}{af:Array Edge}{j d:Nat}{want b g:Bool}
  (hd:(ops[j]?).bind (·.dst)=some d) (hl:look fr d=some (bif g then .bool b else undef)):bP ops fr ⟨dd,op,ty,pos,af,some (j,want)⟩ (g&&(b==want)):=fun N a hf=>by
 unfold Region.wanted
 simp only[sV hf hd hl]
 cases g<;>cases b<;>cases want<;>rfl
def OpY(C:Cx)(o:Oper)(fr:Fr)(g:Bool)(V:World→Prop)(v:Value):Prop:=
 ∀a w,oR C.N fr a→V w→g=true→(execOp a.eval o).run C.P w= .ok (.value v) w
def Any(_:World):Prop:=True
def cells(l:List (Addr×Value))(w:World):Prop:=∀x,x∈l→w.cell? x.1=some x.2
def uo(w w':World):Prop:=∀ad v,w.cell? ad=some v→w'.cell? ad=some v
def OpT(C:Cx)(o:Oper)(fr:Fr)(cs:List bJ)(st:Bool)(K:Value→List bJ→Prop):Prop:=
 ∀a w,oR C.N fr a→Inv C.w0 C.S cs w→∀(next:Act→World→Prop) (Q:kM),(∀v cs' w',K v cs'→Inv C.w0 C.S cs' w'→(st=false→uo w w')→next (a.put o.dst v) w')→o.wp C.P a w next Q
section
variable {C:Cx} {Q:kM} {fr:Fr} {cs:List bJ} {ops:Array Oper} {rest:List Oper} {d:Nat} {op:Op} {ty:TypeId} {pos:String} {af:Array Edge} {gd:Option (Nat×Bool)} {V:World→Prop} {v:Value} {g:Bool}
theorem dL(hy:OpY C ⟨some d,op,ty,pos,af,none⟩ fr true V v)(hV:∀w,Inv C.w0 C.S cs w→V w)(hd:Nat.blt d C.N=true)(h:WL C ops Q rest ((d,v)::fr) cs):
  WL C ops Q (⟨some d,op,ty,pos,af,none⟩::rest) fr cs:=fun a w hf hi=>by
 refine wpList_plain rfl fun K hK=>?_
 unfold Oper.wp
 rw[hy a w hf (hV w hi) rfl]
 exact hK _ _ (h _ w (hf.put (by simpa[Nat.blt_eq]using hd) v) hi)
theorem hH(hg:bP ops fr ⟨some d,op,ty,pos,af,gd⟩ g)(hy:OpY C ⟨some d,op,ty,pos,af,gd⟩ fr g V v)(hV:∀w,Inv C.w0 C.S cs w→V w)(hd:Nat.blt d C.N=true)
  (h:WL C ops Q rest ((d,bif g then v else undef)::fr) cs):WL C ops Q (⟨some d,op,ty,pos,af,gd⟩::rest) fr cs:=fun a w hf hi=>by
 refine wpList_step fun K hK=>?_
 rw[hg _ a hf]
 cases g with
 |true=>
  rw[if_pos rfl]
  unfold Oper.wp
  rw[hy a w hf (hV w hi) rfl]
  exact hK _ _ (h _ w (hf.put (by simpa[Nat.blt_eq]using hd) _) hi)
 |false=>
  rw[if_neg cJ]
  exact hK _ _ (h _ w (hf.put (by simpa[Nat.blt_eq]using hd) _) hi)
theorem fb{st:Bool}{K:Value→List bJ→Prop}(ht:OpT C ⟨some d,op,ty,pos,af,none⟩ fr cs st K)(hd:Nat.blt d C.N=true)(h:∀v cs',K v cs'→WL C ops Q rest ((d,v)::fr) cs'):
  WL C ops Q (⟨some d,op,ty,pos,af,none⟩::rest) fr cs:=fun a w hf hi=>by
 refine wpList_plain rfl fun K' hK=>ht a w hf hi _ _ fun v cs' w' hk hi' _=>hK _ _ (h v cs' hk _ w' (hf.put (by simpa[Nat.blt_eq]using hd) v) hi')
theorem dD{st:Bool}{K:Value→List bJ→Prop}(ht:OpT C ⟨none,op,ty,pos,af,none⟩ fr cs st K)(h:∀v cs',K v cs'→WL C ops Q rest fr cs'):
  WL C ops Q (⟨none,op,ty,pos,af,none⟩::rest) fr cs:=fun a w hf hi=>by
 refine wpList_plain rfl fun K' hK=>ht a w hf hi _ _ fun v cs' w' hk hi' _=>hK _ _ (h v cs' hk _ w' hf hi')
theorem dZ(hg:bP ops fr ⟨some d,op,ty,pos,af,gd⟩ g)(hf0:g=false)(hd:Nat.blt d C.N=true)(h:WL C ops Q rest ((d,undef)::fr) cs):WL C ops Q (⟨some d,op,ty,pos,af,gd⟩::rest) fr cs:=fun a w hf hi=>by
 refine wpList_step fun K hK=>?_
 rw[hg _ a hf,hf0,if_neg cJ]
 exact hK _ _ (h _ w (hf.put (by simpa[Nat.blt_eq]using hd) _) hi)
theorem iA{st:Bool}{K:Value→List bJ→Prop}(hg:bP ops fr ⟨some d,op,ty,pos,af,gd⟩ g)(hg1:g=true)(ht:OpT C ⟨some d,op,ty,pos,af,gd⟩ fr cs st K)(hd:Nat.blt d C.N=true)(h:∀v cs',K v cs'→WL C ops Q rest ((d,v)::fr) cs'):
  WL C ops Q (⟨some d,op,ty,pos,af,gd⟩::rest) fr cs:=fun a w hf hi=>by
 refine wpList_step fun K' hK=>?_
 rw[hg _ a hf,hg1,if_pos rfl]
 exact ht a w hf hi _ _ fun v cs' w' hk hi' _=>hK _ _ (h v cs' hk _ w' (hf.put (by simpa[Nat.blt_eq]using hd) v) hi')
end
structure Dr where
 st:Nat→Bool
 l0:List (Addr×Value)
section
variable {P:Program} {ops:Array Oper} {Q:kM} {md:Region.Mode} {St:Dr}
def pM(P:Program)(md:Region.Mode)(ops:Array Oper)(Q:kM)(St:Dr):Nat→Array Bool→Act→World→Prop
 |0,listed,a,w=>Region.ready md ops listed=[]∧Q .normal a w
 |fuel+1,listed,a,w=>
  (Region.ready md ops listed=[]→Q .normal a w)∧
  ∀i∈Region.ready md ops listed,wpOp P ops Q i (fun a' w'=>((St.st i=false→uo w w')∧(cells St.l0 w→cells St.l0 w'))∧pM P md ops Q St fuel (listed.setIfInBounds i true) a' w') a w
theorem sW:∀(fuel:Nat) (listed:Array Bool) (a:Act) (w:World),pM P md ops Q St fuel listed a w→wpAny P md ops Q fuel listed a w
 |0,_,_,_,h=>h
 |fuel+1,_,_,_,h=>⟨h.1,fun i hi=>wpOp_mono (fun a' w' h'=>sW fuel _ a' w' h'.2) (h.2 i hi)⟩
theorem i5{i:Nat}{oi:Oper}{v:Value}{V:World→Prop}(hV:∀w w',uo w w'→V w→V w')(hi:ops[i]? =some oi)(hsel:∀(j:Nat) (o:Oper) cs b,ops[j]? =some o→o.op≠ .select cs b)
  (hQ:∀c a w,Q (.panic c) (a.put oi.dst v) w→Q (.panic c) a w):
  ∀(fuel:Nat) (listed:Array Bool) (a:Act) (w:World),
   (∀j oj,ops[j]? =some oj→j≠i→listed.getD j true=false→(∀e∈oj.after,Region.binds md e=true→e.on≠i)→oi.apart ops oj=true∧((∀w,V w)∨St.st j=false∨(∀w w',(cells St.l0 w→cells St.l0 w')→V w→V w')))→
   i∈Region.ready md ops listed→YieldsIf P ops V oi v a→V w→
   pM P md ops Q St fuel (listed.setIfInBounds i true) (a.put oi.dst v) w→pM P md ops Q St (fuel+1) listed a w:=by
 intro fuel
 induction fuel with
 |zero=>
  intro listed a w _ hr hy hS H
  refine⟨fun h=>(by rw[h]at hr;cases hr),fun j hj=>?_⟩
  by_cases hji:j=i
  ·subst hji;exact hy.wpOp hi hS ⟨⟨fun _ _ _ h=>h,fun h=>h⟩,H⟩
  have:=ready_mono hj hji
  rw[H.1]at this
  cases this
 |succ fuel ih=>
  intro listed a w hfree hr hy hS H
  refine⟨fun h=>(by rw[h]at hr;cases hr),fun j hj=>?_⟩
  by_cases hji:j=i
  ·subst hji;exact hy.wpOp hi hS ⟨⟨fun _ _ _ h=>h,fun h=>h⟩,H⟩
  have h1:=H.2 j (ready_mono hj hji)
  obtain⟨hjun,oj,hoj,hall⟩:=mem_ready.1 hj
  have hnot:∀e∈oj.after,Region.binds md e=true→e.on≠i:=fun e he hb heq=>by
   have h1:=hall e he hb
   have h0:=(mem_ready.1 hr).1
   rw[heq]at h1
   rcases Nat.lt_or_ge i listed.size with h'|h'
   ·simp[h']at h0 h1;rw[h0]at h1;cases h1
   simp[Array.getElem?_eq_none h']at h1
  obtain⟨hap,hst⟩:=hfree j oj hoj hji hjun hnot
  have h2:=wpOp_putIf hoj hap (fun cs b=>hsel i oi cs b hi) (fun cs b=>hsel j oj cs b hoj) hQ hy h1
  have hfree':∀k ok,ops[k]? =some ok→k≠i→(listed.setIfInBounds j true).getD k true=false→
    (∀e∈ok.after,Region.binds md e=true→e.on≠i)→oi.apart ops ok=true∧((∀w,V w)∨St.st k=false∨(∀w w',(cells St.l0 w→cells St.l0 w')→V w→V w')):=fun k ok hk hki hun hno=>by
   refine hfree k ok hk hki ?_ hno
   by_cases hjk:j=k
   ·subst hjk;exact hjun
   rw[getD_set_ne true hjk]at hun;exact hun
  refine wpOp_mono (fun a' w' h3=>⟨h3.2.1,ih (listed.setIfInBounds j true) a' w' hfree' (ready_mono hr (Ne.symm hji)) h3.1 ?_ ?_⟩) h2
  ·rcases hst with hst|hst|hst
   ·exact hst w'
   ·exact hV _ _ (h3.2.1.1 hst) hS
   exact hst _ _ h3.2.1.2 hS
  rw[Array.setIfInBounds_comm _ _ hji]
  exact h3.2.2
def pP(md:Region.Mode)(ops:Array Oper)(St:Nat→Bool)(listed:Array Bool)(i:Nat):Bool:=
 (List.range ops.size).all fun j=>j==i||listed.getD j true|| !St j||match ops[j]? with
  |some oj=>oj.after.any (fun e=>Region.binds md e&&e.on==i)
  |none=>true
theorem xX{St:Nat→Bool}{i:Nat}{listed:Array Bool}(h:pP md ops St listed i=true)(j:Nat)(oj:Oper)
  (hj:ops[j]? =some oj) (hne:j≠i) (hun:listed.getD j true=false) (hno:∀e∈oj.after,Region.binds md e=true→e.on≠i):St j=false:=by
 simp only[pP,bE,List.mem_range]at h
 have h1:=h j (Array.getElem?_eq_some_iff.1 hj).1
 simp only[hj,Bool.or_eq_true,beq_iff_eq,hne,false_or,hun,Bool.false_eq_true,Bool.not_eq_true']at h1
 rcases h1 with h1|h1
 ·exact h1
 obtain⟨e,he,hb⟩:=Array.any_eq_true'.1 h1
 simp only[aB,beq_iff_eq]at hb
 exact absurd hb.2 (hno e he hb.1)
end
def WA(C:Cx)(St:Dr)(ops:Array Oper)(Q:kM)(fuel:Nat)(listed:Array Bool)(fr:Fr)(cs:List bJ):Prop:=
 ∀a w,oR C.N fr a→Inv C.w0 C.S cs w→pM C.P .any ops (NoPanic Q) St fuel listed a w
section
variable {C:Cx} {Q:kM} {fr:Fr} {cs:List bJ} {ops:Array Oper} {d:Nat} {op:Op} {ty:TypeId} {pos:String} {af:Array Edge} {gd:Option (Nat×Bool)} {V:World→Prop} {v:Value} {g:Bool}
 {St:Dr} {fuel:Nat} {listed:Array Bool}
theorem bR{id:Nat}{l:List Oper}(St:Dr)(hm:C.P.follows .mixedOrders=true)(h:WA C St l.toArray Q l.length (Array.replicate l.length false) fr cs):WC C (.region id l.toArray true) Q fr cs:=fun a w hf hi=>by
 refine wp_region_noPanic (wp_region_any hm (sW (St:=St) _ _ _ _ ?_))
 have:=h a w.drew hf hi.drew
 simpa using this
theorem iP(hg:bP ops fr ⟨some d,op,ty,pos,af,gd⟩ g)(hy:OpY C ⟨some d,op,ty,pos,af,gd⟩ fr g V v){a:Act}(hf:oR C.N fr a):
  YieldsIf C.P ops V ⟨some d,op,ty,pos,af,gd⟩ (bif g then v else undef) a:=by
 unfold YieldsIf
 rw[hg _ a hf]
 cases g with
 |true=>exact .inl ⟨rfl,fun w hV=>hy a w hf hV rfl⟩
 |false=>exact .inr ⟨rfl,rfl⟩
theorem wa_y(i:Nat)(hi:ops[i]? =some ⟨some d,op,ty,pos,af,gd⟩)(hs:Region.noSelect ops=true)(hfree:Region.free .any ops listed i=true)(hr:(Region.ready .any ops listed).contains i=true)
  (hg:bP ops fr ⟨some d,op,ty,pos,af,gd⟩ g) (hy:OpY C ⟨some d,op,ty,pos,af,gd⟩ fr g Any v) (hd:Nat.blt d C.N=true)
  (h:WA C St ops Q fuel (listed.setIfInBounds i true) ((d,bif g then v else undef)::fr) cs):WA C St ops Q (fuel+1) listed fr cs:=fun a w hf hi'=>
 i5 (V:=Any) (fun _ _ _ h=>h) hi (Region.noSelect_spec hs) (fun _ _ _ h=>h) fuel listed a w (fun j oj hj hne hun hno=>⟨Region.free_spec hi hfree j oj hj hne hun hno,.inl fun _=>trivial⟩)
  (by simpa using hr) (iP hg hy hf) trivial (h _ w (hf.put (by simpa[Nat.blt_eq]using hd) _) hi')
theorem AZ(i:Nat){l:List (Addr×Value)}(hi:ops[i]? =some ⟨some d,op,ty,pos,af,gd⟩)(hs:Region.noSelect ops=true)(hfree:Region.free .any ops listed i=true)(hst:pP .any ops St.st listed i=true)(hr:(Region.ready .any ops listed).contains i=true)
  (hg:bP ops fr ⟨some d,op,ty,pos,af,gd⟩ g) (hy:OpY C ⟨some d,op,ty,pos,af,gd⟩ fr g (cells l) v) (hV:∀w,Inv C.w0 C.S cs w→cells l w) (hd:Nat.blt d C.N=true)
  (h:WA C St ops Q fuel (listed.setIfInBounds i true) ((d,bif g then v else undef)::fr) cs):WA C St ops Q (fuel+1) listed fr cs:=fun a w hf hi'=>
 i5 (V:=cells l) (fun _ _ hp h x hx=>hp _ _ (h x hx)) hi (Region.noSelect_spec hs) (fun _ _ _ h=>h) fuel listed a w (fun j oj hj hne hun hno=>⟨Region.free_spec hi hfree j oj hj hne hun hno,.inr (.inl (xX hst j oj hj hne hun hno))⟩)
  (by simpa using hr) (iP hg hy hf) (hV w hi') (h _ w (hf.put (by simpa[Nat.blt_eq]using hd) _) hi')
theorem wa_lk(i:Nat){ad:Addr}(hi:ops[i]? =some ⟨some d,op,ty,pos,af,gd⟩)(hs:Region.noSelect ops=true)(hfree:Region.free .any ops listed i=true)(hr:(Region.ready .any ops listed).contains i=true)
  (hg:bP ops fr ⟨some d,op,ty,pos,af,gd⟩ g) (hy:OpY C ⟨some d,op,ty,pos,af,gd⟩ fr g (cells [(ad,v)]) v) (hm:(ad,v)∈St.l0) (hV:∀w,Inv C.w0 C.S cs w→cells St.l0 w) (hd:Nat.blt d C.N=true)
  (h:WA C St ops Q fuel (listed.setIfInBounds i true) ((d,bif g then v else undef)::fr) cs):WA C St ops Q (fuel+1) listed fr cs:=fun a w hf hi'=>
 i5 (V:=cells St.l0) (fun _ _ hp h x hx=>hp _ _ (h x hx)) hi (Region.noSelect_spec hs) (fun _ _ _ h=>h) fuel listed a w (fun j oj hj hne hun hno=>⟨Region.free_spec hi hfree j oj hj hne hun hno,.inr (.inr fun _ _ h=>h)⟩)
  (by simpa using hr) (iP hg (fun a w hf hV hg=>hy a w hf (fun x hx=>by rw[aL]at hx;subst hx;exact hV _ hm) hg) hf) (hV w hi') (h _ w (hf.put (by simpa[Nat.blt_eq]using hd) _) hi')
theorem iC(i:Nat){ad:Addr}(hi:ops[i]? =some ⟨some d,op,ty,pos,af,none⟩)(hs:Region.noSelect ops=true)(hfree:Region.free .any ops listed i=true)(hr:(Region.ready .any ops listed).contains i=true)
  (hy:OpY C ⟨some d,op,ty,pos,af,none⟩ fr true (cells [(ad,v)]) v) (hm:(ad,v)∈St.l0) (hV:∀w,Inv C.w0 C.S cs w→cells St.l0 w) (hd:Nat.blt d C.N=true)
  (h:WA C St ops Q fuel (listed.setIfInBounds i true) ((d,v)::fr) cs):WA C St ops Q (fuel+1) listed fr cs:=wa_lk i hi hs hfree hr fy hy hm hV hd h
theorem qM(hr:Region.ready .any ops listed=[])(h:QOk C Q .normal fr cs):WA C St ops Q fuel listed fr cs:=fun a w hf hi=>by
 cases fuel with
 |zero=>exact⟨hr,h a w hf hi⟩
 |succ n=>exact⟨fun _=>h a w hf hi,by rw[hr];simp⟩
end
section
variable {C:Cx} {fr:Fr} {cs:List bJ} {d:Option Tmp} {ty:TypeId} {pos:String} {af:Array Edge} {gd:Option (Nat×Bool)} {v:Value} {g:Bool} {x y z:Operand} {T T':TypeId} {k k':IntKind} {a b r:Int} {p q:Bool}
theorem pY{u:Value}(h:ev fr x=some u):Ev fr g x u:=⟨u,h,fun _=>rfl⟩
theorem dH{u:Value}(h:ev fr x=some (bif g then u else undef)):Ev fr g x u:=⟨_,h,fun e=>by rw[e];rfl⟩
theorem fP(h:Ev fr g x v):OpY C ⟨d,.move x,ty,pos,af,gd⟩ fr g Any v:=fun A w hf _ hg=>by
 simp[execOp,h.eval hf hg]
theorem fm(h:Ev fr g x v):OpY C ⟨d,.assign x,ty,pos,af,gd⟩ fr g Any v:=fun A w hf _ hg=>by
 simp[execOp,h.eval hf hg]
theorem CC(hc:Ev fr g x (.bool p))(hb:∃u,ev fr y=some u∧(g=true→p=true→u= .bool q)):OpY C ⟨d,.pick x y (.const (.bool false)),ty,pos,af,gd⟩ fr g Any (.bool (p&&q)):=fun A w hf _ hg=>by
 obtain⟨u,hu,e⟩:=hb
 have h1:=hc.eval hf hg
 have h2:=hf.ev hu
 cases p with
 |true=>rw[e hg rfl]at h2;simp[execOp,h1,h2,asBool]
 |false=>
  have hk:A.eval (.const (.bool false))= .bool false:=rfl
  simp[execOp,h1,asBool,hk]
theorem y_or(hc:Ev fr g x (.bool p))(hb:∃u,ev fr y=some u∧(g=true→p=false→u= .bool q)):OpY C ⟨d,.pick x (.const (.bool true)) y,ty,pos,af,gd⟩ fr g Any (.bool (p||q)):=fun A w hf _ hg=>by
 obtain⟨u,hu,e⟩:=hb
 have h1:=hc.eval hf hg
 have h2:=hf.ev hu
 cases p with
 |false=>rw[e hg rfl]at h2;simp[execOp,h1,h2,asBool]
 |true=>
  have hk:A.eval (.const (.bool true))= .bool true:=rfl
  simp[execOp,h1,asBool,hk]
theorem pk_yes{u:Value}(h:ev fr y=some (bif p then u else undef))(hu:p=true→u= .bool q):∃u,ev fr y=some u∧(g=true→p=true→u= .bool q):=⟨_,h,fun _ e=>by rw[hu e,e];rfl⟩
theorem pk_no{u:Value}(h:ev fr y=some (bif !p then u else undef))(hu:p=false→u= .bool q):∃u,ev fr y=some u∧(g=true→p=false→u= .bool q):=⟨_,h,fun _ e=>by rw[hu e,e];rfl⟩
theorem pk_gyes{u:Value}(h:ev fr y=some (bif(g&&(p==true))then u else undef))(hu:g=true→p=true→u= .bool q):∃u,ev fr y=some u∧(g=true→p=true→u= .bool q):=⟨_,h,fun e0 e=>by rw[hu e0 e,e0,e];rfl⟩
theorem pk_gno{u:Value}(h:ev fr y=some (bif(g&&(p==false))then u else undef))(hu:g=true→p=false→u= .bool q):∃u,ev fr y=some u∧(g=true→p=false→u= .bool q):=⟨_,h,fun e0 e=>by rw[hu e0 e,e0,e];rfl⟩
theorem lC{op:BinOp}(hx:Ev fr g x (.int k a))(hy:Ev fr g y (.int k' b))(h:∀w,(binOp op T (.int k a) (.int k' b)).run C.P w= .ok v w):OpY C ⟨d,.binOp op T x y T',ty,pos,af,gd⟩ fr g Any v:=fun A w hf _ hg=>by
 have he:∀op,(eqGuard op T x y (.int k a) (.int k' b)).run C.P w= .ok () w:=fun op=>by cases op<;>rfl
 simp[execOp,hx.eval hf hg,hy.eval hf hg,he,h]
theorem cX(hx:Ev fr g x (.int k a))(hy:Ev fr g y (.int k b))(hr:k.wrap (a+b)=r):OpY C ⟨d,.binOp .add T x y T',ty,pos,af,gd⟩ fr g Any (.int k r):=lC hx hy fun w=>by simp[go_sem,Op.intArith,hr]
theorem dY(hx:Ev fr g x (.int k a))(hy:Ev fr g y (.int k b))(hr:k.wrap (a - b)=r):OpY C ⟨d,.binOp .sub T x y T',ty,pos,af,gd⟩ fr g Any (.int k r):=lC hx hy fun w=>by simp[go_sem,Op.intArith,hr]
theorem i4(hx:Ev fr g x (.int k a))(hy:Ev fr g y (.int k b))(hr:k.wrap (a*b)=r):OpY C ⟨d,.binOp .mul T x y T',ty,pos,af,gd⟩ fr g Any (.int k r):=lC hx hy fun w=>by simp[go_sem,Op.intArith,hr]
theorem jD(hx:Ev fr g x (.int k a))(hy:Ev fr g y (.int k b))(h0:b≠0)(hr:k.wrap (a.tdiv b)=r):OpY C ⟨d,.binOp .quo T x y T',ty,pos,af,gd⟩ fr g Any (.int k r):=lC hx hy fun w=>by simp[go_sem,Op.intDiv,hr,h0]
theorem gy(hx:Ev fr g x (.int k a))(hy:Ev fr g y (.int k b))(h0:b≠0)(hr:a.tmod b=r):OpY C ⟨d,.binOp .rem T x y T',ty,pos,af,gd⟩ fr g Any (.int k r):=lC hx hy fun w=>by simp[go_sem,Op.intDiv,hr,h0]
theorem nG(hx:Ev fr g x (.int k a))(hy:Ev fr g y (.int k b))(hr:bits .and k a b=r):OpY C ⟨d,.binOp .and T x y T',ty,pos,af,gd⟩ fr g Any (.int k r):=lC hx hy fun w=>by subst hr;simp[go_sem,Op.intBits,bits]
theorem AN(hx:Ev fr g x (.int k a))(hy:Ev fr g y (.int k b))(hr:bits .or k a b=r):OpY C ⟨d,.binOp .or T x y T',ty,pos,af,gd⟩ fr g Any (.int k r):=lC hx hy fun w=>by subst hr;simp[go_sem,Op.intBits,bits]
theorem y_xor_(hx:Ev fr g x (.int k a))(hy:Ev fr g y (.int k b))(hr:bits .xor k a b=r):OpY C ⟨d,.binOp .xor T x y T',ty,pos,af,gd⟩ fr g Any (.int k r):=lC hx hy fun w=>by subst hr;simp[go_sem,Op.intBits,bits]
theorem qk(hx:Ev fr g x (.int k a))(hy:Ev fr g y (.int k b))(hr:bits .andNot k a b=r):OpY C ⟨d,.binOp .andNot T x y T',ty,pos,af,gd⟩ fr g Any (.int k r):=lC hx hy fun w=>by subst hr;simp[go_sem,Op.intBits,bits]
theorem ux(hx:Ev fr g x (.int k a))(hy:Ev fr g y (.int k' b))(h0:0≤b)(hr:k.wrap (a*2^(min b.toNat k.bits))=r):OpY C ⟨d,.binOp .shl T x y T',ty,pos,af,gd⟩ fr g Any (.int k r):=lC hx hy fun w=>by
 have:¬b<0:=by omega
 subst hr
 simp[binOp,Op.shift,this]
theorem j0(hx:Ev fr g x (.int k a))(hy:Ev fr g y (.int k' b))(h0:0≤b)(hr:a.fdiv (2^(min b.toNat k.bits))=r):OpY C ⟨d,.binOp .shr T x y T',ty,pos,af,gd⟩ fr g Any (.int k r):=lC hx hy fun w=>by
 have:¬b<0:=by omega
 subst hr
 simp[binOp,Op.shift,this]
theorem CA(hx:Ev fr g x (.int k a))(hy:Ev fr g y (.int k b))(hr:(a==b)=p):OpY C ⟨d,.binOp .eql T x y T',ty,pos,af,gd⟩ fr g Any (.bool p):=lC hx hy fun w=>by subst hr;simp[go_sem]
theorem y_neq(hx:Ev fr g x (.int k a))(hy:Ev fr g y (.int k b))(hr:(a !=b)=p):OpY C ⟨d,.binOp .neq T x y T',ty,pos,af,gd⟩ fr g Any (.bool p):=lC hx hy fun w=>by subst hr;simp[go_sem]
theorem y_lss(hx:Ev fr g x (.int k a))(hy:Ev fr g y (.int k b))(hr:decide (a<b)=p):OpY C ⟨d,.binOp .lss T x y T',ty,pos,af,gd⟩ fr g Any (.bool p):=lC hx hy fun w=>by subst hr;simp[go_sem]
theorem y_leq(hx:Ev fr g x (.int k a))(hy:Ev fr g y (.int k b))(hr:decide (a≤b)=p):OpY C ⟨d,.binOp .leq T x y T',ty,pos,af,gd⟩ fr g Any (.bool p):=lC hx hy fun w=>by subst hr;simp[go_sem]
theorem y_gtr(hx:Ev fr g x (.int k a))(hy:Ev fr g y (.int k b))(hr:decide (b<a)=p):OpY C ⟨d,.binOp .gtr T x y T',ty,pos,af,gd⟩ fr g Any (.bool p):=lC hx hy fun w=>by subst hr;simp[go_sem]
theorem y_geq(hx:Ev fr g x (.int k a))(hy:Ev fr g y (.int k b))(hr:decide (b≤a)=p):OpY C ⟨d,.binOp .geq T x y T',ty,pos,af,gd⟩ fr g Any (.bool p):=lC hx hy fun w=>by subst hr;simp[go_sem]
theorem y_eqlb(hT:C.P.underlying T=some .bool){a b:Bool}(hx:Ev fr g x (.bool a))(hy:Ev fr g y (.bool b))(hr:(a==b)=p):OpY C ⟨d,.binOp .eql T x y T',ty,pos,af,gd⟩ fr g Any (.bool p):=fun A w hf _ hg=>by
 subst hr
 simp[execOp,hx.eval hf hg,hy.eval hf hg,eqGuard,run_eql_bool w T a b hT]
theorem y_neqb(hT:C.P.underlying T=some .bool){a b:Bool}(hx:Ev fr g x (.bool a))(hy:Ev fr g y (.bool b))(hr:(a !=b)=p):OpY C ⟨d,.binOp .neq T x y T',ty,pos,af,gd⟩ fr g Any (.bool p):=fun A w hf _ hg=>by
 subst hr
 simp[execOp,hx.eval hf hg,hy.eval hf hg,eqGuard,run_neq_bool w T a b hT,bne]
theorem y_not(hx:Ev fr g x (.bool p))(hr:(!p)=q):OpY C ⟨d,.unOp .not T x,ty,pos,af,gd⟩ fr g Any (.bool q):=fun A w hf _ hg=>by
 subst hr
 simp[execOp,hx.eval hf hg,Op.unary]
theorem bW(hT:C.P.underlying T'=some (.int k'))(hS:(C.P.underlying T).isSome=true)(hx:Ev fr g x (.int k a))(hr:k'.wrap a=r):OpY C ⟨d,.convert T T' x,ty,pos,af,gd⟩ fr g Any (.int k' r):=fun A w hf _ hg=>by
 obtain⟨s,hs⟩:=Option.isSome_iff_exists.mp hS
 subst hr
 simp[execOp,hx.eval hf hg,convert,run_underlying hT,run_underlying hs,Conv.intToInt]
theorem AO{ad:Addr}(hx:Ev fr g x (.pointer (some ad))):OpY C ⟨d,.nilCheck x,ty,pos,af,gd⟩ fr g Any (.pointer (some ad)):=fun A w hf _ hg=>by
 simp[execOp,hx.eval hf hg]
def gY(P:Program)(T f:Nat):Option Nat:=match P.underlying T with
 |some (.struct fs)=>match fs[f]? with
  |some fd=>match P.info? fd.type with
   |some i=>bif Nat.beq i.size 0 then none else some fd.offset
   |none=>none
  |none=>none
 |_=>none
theorem dN{bb o r:Nat}(n:Nat){f:Nat}(ho:gY C.P T f=some n)(hx:Ev fr g x (.pointer (some ⟨bb,o,none⟩)))(hr:o+n=r):OpY C ⟨d,.fieldAddr T x f,ty,pos,af,gd⟩ fr g Any (.pointer (some ⟨bb,r,none⟩)):=fun A w hf _ hg=>by
 subst hr
 unfold gY at ho
 split at ho
 ·rename_i fs hfs
  split at ho
  ·rename_i fd hfd
   split at ho
   ·rename_i i hi
    by_cases hz:i.size=0
    ·simp[hz]at ho
    have hz':Nat.beq i.size 0=false:=by cases h':Nat.beq i.size 0 with|false=>rfl|true=>exact absurd (bG h') hz
    rw[hz']at ho
    simp only[aa,aR]at ho
    subst ho
    simp[execOp,hx.eval hf hg,Instr.fieldAt,run_underlying hfs,hfd,Instr.sureAddr,fieldPlace,sizeOf,typeInfo,hi,hz,Addr.add_lit]
   cases ho
  cases ho
 cases ho
theorem y_len{A:Option Addr}{n c:Nat}(hT:∃e,C.P.underlying T=some (.slice e))(hx:Ev fr g x (.slice A n c)):OpY C ⟨d,.call {callee:= .builtin .len,args:= #[x],argTypes:= #[T]},ty,pos,af,gd⟩ fr g Any (.int .i64 n):=fun a w hf _ hg=>by
 obtain⟨e,hT⟩:=hT
 simp[execOp,resolve,invoke,builtin,hx.eval hf hg,Builtin.len_,run_underlying hT,goInt]
theorem Cy{i:Nat}{vs:Array Value}(hx:Ev fr g x (.tuple vs))(hi:vs[i]? =some v):OpY C ⟨d,.extract x i,ty,pos,af,gd⟩ fr g Any v:=fun a w hf _ hg=>by
 simp[execOp,hx.eval hf hg,Instr.extract,hi]
inductive Nth:List Value→Nat→Value→Prop
 |zero (v:Value) (l:List Value):Nth (v::l) 0 v
 |succ (u:Value) {l:List Value} {n:Nat} {v:Value} (h:Nth l n v):Nth (u::l) (n+1) v
theorem Nth.at_{l:List Value}{n:Nat}{v:Value}(h:Nth l n v):l[n]? =some v:=by
 induction h with
 |zero=>rfl
 |succ u _ ih=>simpa using ih
theorem fX{i:Nat}{vs:List Value}(hx:Ev fr g x (.tuple vs.toArray))(hi:Nth vs i v):OpY C ⟨d,.extract x i,ty,pos,af,gd⟩ fr g Any v:=Cy hx (by simpa using hi.at_)
theorem uw{A:Option Addr}{n c lo hi:Nat}{e:TypeId}{sz:Nat}{lo? hi? :Option Operand}(hT:C.P.underlying T=some (.slice e))(hs:∀w,(sizeOf e).run C.P w= .ok sz w)(hx:Ev fr g x (.slice A n c))
  (hlo:(lo? =none∧lo=0)∨∃l k,lo? =some l∧Ev fr g l (.int k (lo:Int))) (hhi:(hi? =none∧hi=n)∨∃l k,hi? =some l∧Ev fr g l (.int k (hi:Int))) (h1:lo≤hi) (h2:hi≤c):
  OpY C ⟨d,.slice T x lo? hi? none,ty,pos,af,gd⟩ fr g Any (.slice (if c=lo then A else A.map (·.add (lo*sz))) (hi - lo) (c - lo)):=fun a w hf _ hg=>by
 have hb:(Instr.sliceBounds true n c (lo?.map a.eval) (hi?.map a.eval) none).run C.P w= .ok (lo,hi,c) w:=by
  rcases hlo with⟨rfl,rfl⟩|⟨l,kl,rfl,hl⟩<;>rcases hhi with⟨rfl,rfl⟩|⟨h,kh,rfl,hh⟩
  ·simp[Instr.sliceBounds]
  ·have:=hh.eval hf hg
   simp[Instr.sliceBounds,Instr.sliceBound,asIntOf,this,h2]
  ·have:=hl.eval hf hg
   simp[Instr.sliceBounds,Instr.sliceBound,asIntOf,this,h1]
  have:=hl.eval hf hg
  have:=hh.eval hf hg
  simp[Instr.sliceBounds,Instr.sliceBound,asIntOf, *]
 simp[execOp,hx.eval hf hg,Instr.sliceAt,run_underlying hT,Instr.slice,hb,hs]
theorem gf{A:Option Addr}{n c:Nat}(hi:Nat){i:Int}{e:TypeId}{sz:Nat}{l:Operand}(hT:C.P.underlying T=some (.slice e))(hs:∀w,(sizeOf e).run C.P w= .ok sz w)(hx:Ev fr g x (.slice A n c))
  (hy:Ev fr g l (.int k i)) (hj:g=true→i=(hi:Int)) (h2:g=true→hi≤c):OpY C ⟨d,.slice T x none (some l) none,ty,pos,af,gd⟩ fr g Any (.slice A hi c):=fun a w hf _ hg=>by
 have h3:=hy.eval hf hg
 rw[hj hg]at h3
 have h4:=h2 hg
 have hb:(Instr.sliceBounds true n c none (some (.int k (hi:Int))) none).run C.P w= .ok (0,hi,c) w:=by
  simp[Instr.sliceBounds,Instr.sliceBound,asIntOf,h4]
 have hA:(if c=0 then A else A.map (·.add (0*sz)))=A:=by
  split
  ·rfl
  cases A<;>simp[Addr.add]
 simp only[Nat.zero_mul]at hA
 simp[execOp,hx.eval hf hg,h3,Instr.sliceAt,run_underlying hT,Instr.slice,hb,hs,hA]
theorem cU{ad:Addr}{n c j:Nat}{i:Int}{e sz:Nat}(hT:C.P.underlying T=some (.slice e))(hs:∀w,(sizeOf e).run C.P w= .ok sz w)(hx:Ev fr g x (.slice (some ad) n c))(hy:Ev fr g y (.int k i))(hj:g=true→i=(j:Int))(h1:g=true→j<n):
  OpY C ⟨d,.indexAddr T x y,ty,pos,af,gd⟩ fr g Any (.pointer (some (ad.add (j*sz)))):=fun a w hf _ hg=>by
 have h2:=h1 hg
 have h3:=hy.eval hf hg
 rw[hj hg]at h3
 simp[execOp,hx.eval hf hg,h3,Instr.indexAt,asIntOf,run_underlying hT,h2,hs]
theorem cV{bb o n j r:Nat}{i:Int}{e sz:Nat}(hT:C.P.underlying T=some (.array n e))(hs:∀w,(sizeOf e).run C.P w= .ok sz w)(hx:Ev fr g x (.pointer (some ⟨bb,o,none⟩)))(hy:Ev fr g y (.int k i))(hj:g=true→i=(j:Int))(h1:g=true→j<n)(hr:o+j*sz=r):
  OpY C ⟨d,.indexAddr T x y,ty,pos,af,gd⟩ fr g Any (.pointer (some ⟨bb,r,none⟩)):=fun a w hf _ hg=>by
 subst hr
 have h2:=h1 hg
 have h3:=hy.eval hf hg
 rw[hj hg]at h3
 simp[execOp,hx.eval hf hg,h3,Instr.indexAt,Instr.sureAddr,asIntOf,run_underlying hT,h2,hs,Addr.add_lit]
theorem bO{ad:Addr}(hT:∀w,(isAgg T).run C.P w= .ok false w)(hx:Ev fr g x (.pointer (some ad))):OpY C ⟨d,.load T x,ty,pos,af,gd⟩ fr g (cells [(ad,v)]) v:=fun a w hf hV hg=>by
 have:=hV (ad,v) cJ
 simp only at this
 simp[execOp,hx.eval hf hg,Instr.loadAt,Instr.sureAddr,loadVar,hT,this]
def eJ(ad:Addr):Nat→List Value→List (Addr×Value)
 |_,[]=>[]
 |i,v::vs=>(ad.add i,v)::eJ ad (i+1) vs
theorem lh{ad:Addr}:∀{vs:List Value} {i j:Nat} {v:Value},vs[j]? =some v→(ad.add (i+j),v)∈eJ ad i vs
 |[],_,_,_,h=>by simp at h
 |u::vs,i,0,v,h=>by simp at h;subst h;simp[eJ]
 |u::vs,i,j+1,v,h=>by
  simp only[List.getElem?_cons_succ]at h
  have:=lh (ad:=ad) (i:=i+1) h
  rw[show i+(j+1)=i+1+j by omega]
  exact bC _ this
theorem gC{ad:Addr}:∀{vs:List Value} {i:Nat} {x:Addr×Value},x∈eJ ad i vs→∃j,vs[j]? =some x.2∧x.1=ad.add (i+j)
 |[],_,_,h=>by cases h
 |u::vs,i,x,h=>by
  rcases aK.1 h with rfl|h
  ·exact⟨0,by simp,by simp⟩
  obtain⟨j,h1,h2⟩:=gC h
  exact⟨j+1,by simpa using h1,by rw[h2,show i+1+j=i+(j+1) by omega]⟩
theorem cn{ad:Addr}{vs:List Value}(hT:∀w,(isAgg T).run C.P w= .ok true w)(hs:∀w,(sizeOf T).run C.P w= .ok vs.length w)(hx:Ev fr g x (.pointer (some ad))):
  OpY C ⟨d,.load T x,ty,pos,af,gd⟩ fr g (cells (eJ ad 0 vs)) (.agg vs.toArray):=fun a w hf hV hg=>by
 have h:=run_loadCells_list (P:=C.P) w ad vs (fun j v hj=>by
  have:=hV _ (lh (ad:=ad) (i:=0) hj)
  simpa using this)
 simp[execOp,hx.eval hf hg,Instr.loadAt,Instr.sureAddr,loadVar,hT,hs,h]
theorem cB{w0:World}{S:List Nat}{bb o t:Nat}{xs:List Value}(hc:Has cs (row bb xs t))(hv:xs[o]? =some v):∀w,Inv w0 S cs w→cells [(⟨bb,o,none⟩,v)] w:=fun w hi z hz=>by
 rw[aL]at hz
 subst hz
 simpa[hv]using hi.cell hc o
theorem cI{w0:World}{S:List Nat}{bb o t:Nat}{xs vs:List Value}(hc:Has cs (row bb xs t))(hv:(xs.drop o).take vs.length=vs):∀w,Inv w0 S cs w→cells (eJ ⟨bb,o,none⟩ 0 vs) w:=fun w hi z hz=>by
 obtain⟨j,h1,h2⟩:=gC hz
 rw[h2,Addr.add_lit,hi.cell hc]
 have hj:j<vs.length:=(ar.1 h1).1
 rw[←h1,←hv,List.getElem?_take]
 rw[if_pos hj,List.getElem?_drop]
 simp
end
structure RdV(w:World)(sz:Nat)(A:Option Addr)(n c:Nat)(xs:List Value):Prop where
 len:xs.length=n*sz
 cap:n≤c
 max:c≤maxLen
 nil:A=none→n=0∧c=0
 at_:∀ad,A=some ad→∀j u,xs[j]? =some u→w.cell? (ad.add j)=some u
theorem my(a:Addr)(n:Nat):(a.add n).block=a.block:=by unfold Addr.add;split<;>rfl
theorem pJ(a:Addr)(i j:Nat):(a.add i).add j=a.add (i+j):=by
 unfold Addr.add
 by_cases hi:i=0<;>by_cases hj:j=0<;>simp[hi,hj,Nat.add_assoc]
theorem RdV.old{w0 w:World}{S:List Nat}{cs:List bJ}{sz n c:Nat}{A:Option Addr}{xs:List Value}(h:RdV w0 sz A n c xs)(hi:Inv w0 S cs w)(hS:∀ad,A=some ad→ad.block∉S):RdV w sz A n c xs:=
 ⟨h.len,h.cap,h.max,h.nil,fun ad e j u hu=>by
  have h1:=h.at_ ad e j u hu
  refine(World.cell?_of_block (hi.JJ.block _ (World.block_lt_of_cell? w0 _ h1) ?_)).trans h1
  rw[my]
  exact hS ad e⟩
theorem RdV.Jz{w0 w:World}{cs:List bJ}{sz n c:Nat}{A:Option Addr}{xs:List Value}(h:RdV w0 sz A n c xs)(hi:Inv w0 [] cs w):RdV w sz A n c xs:=h.old hi (fun _ _=>by simp)
theorem RdV.below{w w':World}{sz n c:Nat}{A:Option Addr}{xs:List Value}(h:RdV w sz A n c xs)(hb:Below w.heap.size w w'):RdV w' sz A n c xs:=
 ⟨h.len,h.cap,h.max,h.nil,fun ad e j u hu=>by
  have h1:=h.at_ ad e j u hu
  exact(World.cell?_of_block (hb.block _ (World.block_lt_of_cell? w _ h1))).trans h1⟩
theorem RdV.cut{w:World}{n c:Nat}{A:Option Addr}{xs:List Value}(h:RdV w 1 A n c xs){lo hi:Nat}(h1:lo≤hi)(h2:hi≤n):
  RdV w 1 (if c=lo then A else A.map (·.add (lo*1))) (hi - lo) (c - lo) ((xs.take hi).drop lo):=by
 have hl:=h.len
 have hc:=h.cap
 have hm:=h.max
 refine⟨by simp;omega,by omega,by omega,fun e=>?_,fun ad e j u hu=>?_⟩
 ·by_cases hcl:c=lo
  ·constructor<;>omega
  rw[if_neg hcl]at e
  cases A with
  |none=>have:=h.nil rfl;constructor<;>omega
  |some a=>cases e
 rw[List.getElem?_drop,List.getElem?_take]at hu
 split at hu
 ·rename_i hlt
  by_cases hcl:c=lo
  ·omega
  rw[if_neg hcl]at e
  cases A with
  |none=>cases e
  |some a=>
   simp only[Option.map_some,aR,Nat.mul_one]at e
   subst e
   rw[pJ]
   exact h.at_ a rfl _ u hu
 cases hu
theorem de{w:World}{e sz n c:Nat}{A:Option Addr}{xs:List Value}(h:(slv e sz A n c xs).ok w):RdV w sz A n c xs:=by
 obtain⟨h1,h2⟩:=h
 have h0:w.ownsRow 0 e sz (.slice A n c) n xs:=⟨h1,h2⟩
 rcases h2 with⟨hv,hn⟩|⟨g,cap,cur,hv,hg,hh,hc,hm,r⟩
 ·injection hv with hA hn' hc'
  subst hA hc'
  exact⟨h1,by omega,by simp,fun _=>⟨hn,rfl⟩,fun ad e=>by cases e⟩
 injection hv with hA hn' hc'
 subst hA hc'
 refine⟨h1,hc,hm,fun e=>(by cases e),fun ad e j u hu=>?_⟩
 injection e with e
 subst e
 exact h0.cells (g:=g) rfl j u hu
theorem Inv.rd{w0 w:World}{S:List Nat}{cs:List bJ}{e sz n c:Nat}{A:Option Addr}{xs:List Value}(h:Inv w0 S cs w)(hc:Has cs (slv e sz A n c xs)):RdV w sz A n c xs:=de (h.get hc)
theorem Gp{w:World}{e n c m:Nat}{A:Option Addr}{xs:List Value}(h:(slv e 1 A n c xs).ok w)(hm:m≤n):(slv e 1 A m c (xs.take m)).ok w:=by
 obtain⟨h1,h2⟩:=h
 refine⟨by simp;omega,?_⟩
 rcases h2 with⟨hv,hn⟩|⟨g,cap,cur,hv,hg,hh,hc,hmx,hs,ht⟩
 ·injection hv with hA hn' hc'
  subst hA hc' hn
  obtain rfl:m=0:=by omega
  exact .inl ⟨rfl,rfl⟩
 injection hv with hA hn' hc'
 subst hA hc'
 refine .inr ⟨g,c,cur,rfl,hg,hh,by omega,hmx,hs,?_⟩
 rw[←ht,List.take_take]
 congr 1
 omega
def ints(k:IntKind)(xs:List Int):List Value:=xs.map (Value.int k)
abbrev sl(k:IntKind)(e:Nat)(A:Option Addr)(n c:Nat)(xs:List Int):bJ:=slv e 1 A n c (ints k xs)
abbrev Rd(w:World)(k:IntKind)(A:Option Addr)(n c:Nat)(xs:List Int):Prop:=RdV w 1 A n c (ints k xs)
def At(cs:List bJ)(c:bJ)(mk:bJ→List bJ):Prop:=∀c',Upd cs c c' (mk c')
theorem aH{c:bJ}{cs:List bJ}:At (c::cs) c (fun x=>x::cs):=fun _=> .head _ _ _
theorem aT{d c:bJ}{cs:List bJ}{mk:bJ→List bJ}(h:At cs c mk):At (d::cs) c (fun x=>d::mk x):=fun x=> .tail _ (h x)
theorem At.has{cs:List bJ}{c:bJ}{mk:bJ→List bJ}(h:At cs c mk):Has cs c:=(h c).has
theorem Inv.conv{w0 w:World}{S:List Nat}{cs:List bJ}{c c':bJ}{mk:bJ→List bJ}(h:Inv w0 S cs w)(hu:At cs c mk)(hb:c'.bs=c.bs)(hok:c.ok w→c'.ok w):Inv w0 S (mk c') w:=by
 have hc:=h.get hu.has
 refine h.upd (hu c') (dC.refl _ _) ⟨dC.refl _ _,?_,?_,?_⟩
 ·obtain⟨rest,h1,_,_⟩:=(hu c').perm
  have:=((h1.flatMap_right bJ.bs).nodup_iff).1 h.nodup
  simp only[List.singleton_append,List.flatMap_cons]at this
  simp only[bK,List.flatMap_cons,List.flatMap_nil,ax,hb]
  exact(List.nodup_append.1 this).1
 ·intro x hx
  simp only[aL]at hx
  subst hx
  exact hok hc
 intro b hb'
 simp only[bK,List.flatMap_cons,List.flatMap_nil,ax,hb]at hb'
 exact .inl hb'
theorem CF{C:Cx}{Q:kM}{fr:Fr}{cs:List bJ}{c c':bJ}{mk:bJ→List bJ}{ops:Array Oper}{l:List Oper}(hu:At cs c mk)(hb:c'.bs=c.bs)(hok:∀w,c.ok w→c'.ok w)(h:WL C ops Q l fr (mk c')):WL C ops Q l fr cs:=
 fun a w hf hi=>h a w hf (hi.conv hu hb (hok w))
section
variable {C:Cx} {fr:Fr} {cs:List bJ} {d:Option Tmp} {ty:TypeId} {pos:String} {af:Array Edge} {gd:Option (Nat×Bool)} {v:Value} {x y:Operand} {T T':TypeId} {mk:bJ→List bJ}
theorem uo.alloc(w:World)(o:Obj):uo w (w.alloc o):=fun ad _ h=>(World.cell?_alloc_lt w _ ad (World.block_lt_of_cell? w ad h)).trans h
theorem uo.Kd{w w':World}(h:dC [] w w'):uo w w':=fun ad v hv=>(World.cell?_of_block (h.block _ (World.block_lt_of_cell? w ad hv) cJ)).trans hv
theorem ft{z:Value}{zs:List Value}(hz:∀w,(zeroValue T).run C.P w= .ok z w)(hzs:z.cells=zs.toArray):
  OpT C ⟨d,.alloc T,ty,pos,af,gd⟩ fr cs false (fun v cs'=>∃b,v= .pointer (some ⟨b,0,none⟩)∧cs'=cs++[row b zs T]):=fun a w hf hi next Q h=>by
 have hr:(execOp a.eval ⟨d,.alloc T,ty,pos,af,gd⟩).run C.P w= .ok (.value (.pointer (some ⟨w.heap.size,0,none⟩))) (w.alloc (.cells zs.toArray T)):=by
  simp[execOp,Instr.alloc,hz,newVar,newRow,hzs]
 unfold Oper.wp
 rw[hr]
 exact h _ _ _ ⟨_,rfl,rfl⟩ (hi.alloc zs T) (fun _=>uo.alloc w _)
theorem sJ{xs:List Value}(hx:ev fr x=some v)(hv:v.cells=xs.toArray):
  OpT C ⟨d,.box T x,ty,pos,af,gd⟩ fr cs false (fun v cs'=>∃b,v= .pointer (some ⟨b,0,none⟩)∧cs'=cs++[row b xs T]):=fun a w hf hi next Q h=>by
 have hr:(execOp a.eval ⟨d,.box T x,ty,pos,af,gd⟩).run C.P w= .ok (.value (.pointer (some ⟨w.heap.size,0,none⟩))) (w.alloc (.cells xs.toArray T)):=by
  simp[execOp,Instr.box,hf.ev hx,newVar,newRow,hv]
 unfold Oper.wp
 rw[hr]
 exact h _ _ _ ⟨_,rfl,rfl⟩ (hi.alloc xs T) (fun _=>uo.alloc w _)
inductive nB:List Value→Nat→Value→List Value→Prop
 |zero (u v:Value) (l:List Value):nB (u::l) 0 v (v::l)
 |succ (u:Value) {l l':List Value} {n:Nat} {v:Value} (h:nB l n v l'):nB (u::l) (n+1) v (u::l')
theorem nB.set{l l':List Value}{n:Nat}{v:Value}(h:nB l n v l'):l.set n v=l'∧n<l.length:=by
 induction h with
 |zero=>simp
 |succ u _ ih=>simp[ih.1,ih.2]
theorem fc{bb o t:Nat}{xs xs':List Value}(hT:∀w,(sizeOf T).run C.P w= .ok 1 w)(hx:ev fr x=some (.pointer (some ⟨bb,o,none⟩)))(hy:ev fr y=some v)(h1:v.oneCell'=true)(hu:At cs (row bb xs t) mk)(hs:nB xs o v xs'):
  OpT C ⟨d,.store T x y,ty,pos,af,gd⟩ fr cs true (fun u cs'=>u=undef∧cs'=mk (row bb xs' t)):=fun a w hf hi next Q h=>by
 obtain⟨rfl,ho⟩:=hs.set
 have hc:=hi.cell hu.has o
 have hfz:=hi.free hu.has o
 have hcs:v.cells= #[v]:=by cases v<;>first|rfl|cases h1
 have hr:(execOp a.eval ⟨d,.store T x y,ty,pos,af,gd⟩).run C.P w= .ok .skip (w.setCell ⟨bb,o,none⟩ v):=by
  simp[execOp,hf.ev hx,hf.ev hy,Instr.storeAt,Instr.sureAddr,storeVar,hT,hcs,storeCells,Addr.add_lit,run_store _ _ _ v _ h1,hc,hfz,ho]
 unfold Oper.wp
 rw[hr]
 exact h _ _ _ ⟨rfl,rfl⟩ (hi.set o v (hu _)) (fun e=>by cases e)
theorem bV{bb t:Nat}{xs vs:List Value}(hT:∀w,(sizeOf T).run C.P w= .ok vs.length w)(hx:ev fr x=some (.pointer (some ⟨bb,0,none⟩)))(hy:ev fr y=some (.agg vs.toArray))(h1:∀u∈vs,u.oneCell'=true)(hu:At cs (row bb xs t) mk)(ho:vs.length=xs.length):
  OpT C ⟨d,.store T x y,ty,pos,af,gd⟩ fr cs true (fun u cs'=>u=undef∧cs'=mk (row bb vs t)):=fun a w hf hi next Q h=>by
 have hg:w.heap[bb]? =some (.cells xs.toArray t (0,0)):=hi.get hu.has
 have hst:=run_storeCells_at C.P bb 0 t vs 0 xs.toArray w hg (by simp[ho]) h1
 have e:((xs.toArray.toList.take (0+0)++vs++xs.toArray.toList.drop (0+0+vs.length)).toArray)=vs.toArray:=by simp[ho]
 rw[e]at hst
 have hr:(execOp a.eval ⟨d,.store T x y,ty,pos,af,gd⟩).run C.P w= .ok .skip (w.setRow bb vs.toArray):=by
  simp[execOp,hf.ev hx,hf.ev hy,Instr.storeAt,Instr.sureAddr,storeVar,hT,Value.cells,hst]
 have hsame:∀k,k≠bb→(w.setRow bb vs.toArray).heap[k]? =w.heap[k]? :=fun k hk=>by
  simp only[World.setRow,Array.getElem?_modify]
  rw[if_neg Wq1]
 have hsz:(w.setRow bb vs.toArray).heap.size=w.heap.size:=by simp[World.setRow]
 unfold Oper.wp
 rw[hr]
 refine h _ _ _ ⟨rfl,rfl⟩ (hi.upd (hu _) ⟨rfl,rfl,rfl,by omega,fun k _ hk=>hsame k (by simpa[row,bJ.bs]using hk)⟩ ⟨⟨rfl,rfl,rfl,by omega,fun k _ hk=>hsame k (by simpa[row,bJ.bs]using hk)⟩,by simp[bK,row,bJ.bs],?_,?_⟩) (fun e=>by cases e)
 ·intro c hc
  simp only[aL]at hc
  subst hc
  show(w.setRow bb vs.toArray).heap[bb]? =_
  simp[World.setRow,Array.getElem?_modify,hg]
 intro k hk
 left
 simpa[bK,row,bJ.bs]using hk
theorem jO{w w':World}{S:List Nat}{e sz n c:Nat}{A:Option Addr}{xs:List Value}(hk:dC S w w')(ho:w'.ownsRow 0 e sz (.slice A n c) n xs)(hb:∀a,A=some a→a.block∈S∨w.heap.size≤a.block):Inv w S [slv e sz A n c xs] w':=by
 refine⟨hk,?_,?_,?_⟩
 ·cases A<;>simp[bK,slv,bJ.bs,ab]
 ·intro c hc
  simp only[aL]at hc
  subst hc
  exact ho
 intro b hbb
 cases A with
 |none=>simp[bK,slv,bJ.bs,ab]at hbb
 |some a=>
  simp[bK,slv,bJ.bs,ab]at hbb
  subst hbb
  exact hb a rfl
theorem oc{P:Program}(w:World)(base:Nat)(t ty e:TypeId)(i:TypeInfo)(size:Nat)(ht:P.underlying t=some (.slice e))(hi:P.info? e=some i)
  (v:Value) (n:Nat) (xs:List Value) (hown:w.ownsRow base e size v n xs) (c:Nat):(Builtin.append_ #[t,t] ty #[v,.slice none 0 c]).run P w= .ok v w:=by
 rcases hown.2 with⟨rfl,rfl⟩|⟨g,cap,cur,rfl,_,_,hnc,_⟩
 ·simp[Builtin.append_,run_underlying ht,sizeOf,typeInfo,hi,Builtin.lenOf,Builtin.firstCells]
 simp[Builtin.append_,run_underlying ht,sizeOf,typeInfo,hi,Builtin.lenOf,Builtin.firstCells,hnc,storeCells]
theorem uH{P:Program}(w:World)(t ty e:TypeId)(i:TypeInfo)(z:Value)(sz:Nat)(ht:P.underlying t=some (.slice e))(hi:P.info? e=some i)(hz:i.zero=some z)
  (hsize:i.size=sz) (hzs:z.cells.size=sz) (hsz:0<sz)
  (A:Option Addr) (n c:Nat) (xs:List Value) (hown:w.ownsRow 0 e sz (.slice A n c) n xs)
  (A2:Option Addr) (n2 c2:Nat) (ys:List Value) (hr:RdV w sz A2 n2 c2 ys) (h1:∀u∈ys,u.oneCell'=true)
  (h63:n+n2≤maxLen) (cF:(n+n2)*i.bytes≤140737488355328):
  ∃A' c' w',(Builtin.append_ #[t,t] ty #[.slice A n c,.slice A2 n2 c2]).run P w= .ok (.slice A' (n+n2) c') w'∧w'.ownsRow 0 e sz (.slice A' (n+n2) c') (n+n2) (xs++ys)∧w.grownBy w' ((Value.slice A n c).ownBlock)∧
   (A'.map Addr.block=A.map Addr.block∨A'.map Addr.block=some w.heap.size):=by
 obtain⟨hlen,hc,hm,hnil,hread⟩:=hr
 rcases A2 with _|ad
 ·obtain⟨rfl,rfl⟩:=hnil rfl
  obtain rfl:ys=[]:=List.eq_nil_of_length_eq_zero (by simpa using hlen)
  exact⟨A,c,w,oc w 0 t ty e i sz ht hi _ _ _ hown 0,by simpa using hown,World.grownBy.refl w _,.inl rfl⟩
 obtain⟨v',w',jo,h2,h3,_,h5⟩:=run_append_own_at (P:=P) w 0 t ty e i z sz i.bytes ht hi hz hsize rfl hzs hsz (.slice A n c) n xs hown ad n2 c2 ys hlen (hread ad rfl) h1 h63 cF (au _)
 have hv:∃A' c',v'= .slice A' (n+n2) c':=by
  rcases h2.2 with⟨rfl,hn⟩|⟨g,cap,cur,rfl,_⟩
  ·exact⟨none,0,by rw[hn]⟩
  exact⟨_,_,rfl⟩
 obtain⟨A',c',rfl⟩:=hv
 refine⟨A',c',w',jo,h2,h3,?_⟩
 rcases h5 with h5|h5
 ·left;cases A'<;>cases A<;>simp_all [Value.ownBlock]
 right;cases A'<;>simp_all [Value.ownBlock]
theorem dC.Ke{w w':World}{A:Option Addr}{n c:Nat}(h:w.grownBy w' ((Value.slice A n c).ownBlock)):dC (ab A) w w':=
 ⟨h.os,h.tape,h.output,h.size,fun b hb hn=>h.block b hb (by cases A<;>simp[Value.ownBlock,ab]at hn⊢;exact fun e=>hn e)⟩
def Ah(P:Program)(e sz bytes:Nat):Bool:=match P.info? e with
 |some i=>match i.zero with
  |some z=>Nat.beq i.size sz&&Nat.beq z.cells.size sz&&Nat.beq i.bytes bytes&&Nat.blt 0 sz
  |none=>false
 |none=>false
theorem sa{P:Program}{e sz bytes:Nat}(h:Ah P e sz bytes=true):∃i z,P.info? e=some i∧i.zero=some z∧i.size=sz∧z.cells.size=sz∧i.bytes=bytes∧0<sz:=by
 unfold Ah at h
 split at h
 ·rename_i i hi
  split at h
  ·rename_i z hz
   simp only[aB,Nat.blt_eq]at h
   obtain⟨⟨⟨h1,h2⟩,h3⟩,h4⟩:=h
   exact⟨i,z,hi,hz,bG h1,bG h2,bG h3,h4⟩
  cases h
 cases h
theorem cC{e sz bytes n c n2 c2:Nat}{A A2:Option Addr}{xs ys:List Value}(hx:ev fr x=some (.slice A n c))(hy:ev fr y=some (.slice A2 n2 c2))(hu:At cs (slv e sz A n c xs) mk)
  (ht:C.P.underlying T=some (.slice e)) (hel:Ah C.P e sz bytes=true)
  (hr:∀w,Inv C.w0 C.S cs w→RdV w sz A2 n2 c2 ys) (h1:∀u∈ys,u.oneCell'=true) (h63:n+n2≤maxLen) (cF:(n+n2)*bytes≤140737488355328):
  OpT C ⟨d,.call {callee:= .builtin .append,args:= #[x,y],argTypes:= #[T,T]},ty,pos,af,gd⟩ fr cs true (fun v cs'=>∃A' c',v= .slice A' (n+n2) c'∧cs'=mk (slv e sz A' (n+n2) c' (xs++ys))):=fun a w hf hinv next Q h=>by
 obtain⟨i,z,hi,hz,hsize,hzs,rfl,hsz⟩:=sa hel
 have hown:w.ownsRow 0 e sz (.slice A n c) n xs:=hinv.get hu.has
 obtain⟨A',c',w',jo,h2,h3,h4⟩:=uH (P:=C.P) w T ty e i z sz ht hi hz hsize hzs hsz A n c xs hown A2 n2 c2 ys (hr w hinv) h1 h63 cF
 have hr':(execOp a.eval ⟨d,.call {callee:= .builtin .append,args:= #[x,y],argTypes:= #[T,T]},ty,pos,af,gd⟩).run C.P w= .ok (.value (.slice A' (n+n2) c')) w':=by
  simp[execOp,resolve,invoke,builtin,hf.ev hx,hf.ev hy,jo]
 unfold Oper.wp
 rw[hr']
 have hk:=dC.Ke h3
 refine h _ _ _ ⟨A',c',rfl,rfl⟩ (hinv.upd (hu _) hk (jO hk h2 fun a ha=>?_)) (fun e=>by cases e)
 subst ha
 rcases h4 with h4|h4
 ·cases A with
  |none=>simp at h4
  |some a0=>simp at h4;left;simp[h4,bJ.bs,ab]
 simp at h4;right;omega
def evs(fr:Fr):List Operand→Option (List Value)
 |[]=>some []
 |x::l=>match ev fr x,evs fr l with
  |some v,some vs=>some (v::vs)
  |_,_=>none
theorem z8{N:Nat}{a:Act}(hf:oR N fr a):∀{l:List Operand} {vs:List Value},evs fr l=some vs→l.map a.eval=vs
 |[],vs,h=>by simp[evs]at h;simp[h]
 |x::l,vs,h=>by
  simp only[evs]at h
  split at h
  ·rename_i u us hu hus
   simp only[aR]at h
   subst h
   simp[hf.ev hu,z8 hf hus]
  cases h
def evP(fr:Fr):List (Nat×Operand)→Option (List (Nat×Value))
 |[]=>some []
 |(i,x)::l=>match ev fr x,evP fr l with
  |some v,some vs=>some ((i,v)::vs)
  |_,_=>none
theorem EX{N:Nat}{a:Act}(hf:oR N fr a):∀{l:List (Nat×Operand)} {vs:List (Nat×Value)},evP fr l=some vs→l.map (fun p=>(p.1,a.eval p.2))=vs
 |[],vs,h=>by simp[evP]at h;simp[h]
 |(i,x)::l,vs,h=>by
  simp only[evP]at h
  split at h
  ·rename_i u us hu hus
   simp only[aR]at h
   subst h
   simp[hf.ev hu,EX hf hus]
  cases h
theorem EP(l:List Value):∀(j:Nat) (pre post:List Value),post.length=l.length→
  (l.zipIdx j).foldl (fun(cs:Array Value) (p:Value×Nat)=>cs.setIfInBounds (pre.length - j+p.2) p.1) (pre++post).toArray=(pre++l).toArray∨pre.length<j:=by
 induction l with
 |nil=>
  intro j pre post h
  left
  have:post=[]:=List.eq_nil_of_length_eq_zero (by simpa using h)
  simp[this]
 |cons v l ih=>
  intro j pre post h
  by_cases hj:pre.length<j
  ·exact .inr hj
  left
  cases post with
  |nil=>simp at h
  |cons q post=>
   simp only[List.zipIdx_cons,List.foldl_cons]
   have e1:((pre++q::post).toArray).setIfInBounds (pre.length - j+j) v=((pre++[v])++post).toArray:=by
    rw[show pre.length - j+j=pre.length by omega]
    simp
   rw[e1]
   have:=ih (j+1) (pre++[v]) post (by simpa using h)
   rcases this with this|this
   ·rw[show(pre++[v]).length - (j+1)=pre.length - j by simp]at this
    rw[this]
    simp
   simp at this;omega
theorem EU(sz:Nat):∀(l:List (Nat×Value)) (k:Nat) (pre post:List Value),l.map Prod.fst=List.range' k l.length→(∀p∈l,p.2.cells.size=sz)→pre.length=k*sz→post.length=l.length*sz→
  Instr.fill (fun i=>some (i*sz,sz)) (pre++post).toArray l=some (pre++l.flatMap (fun p=>p.2.cells.toList)).toArray
 |[],_,pre,post,_,_,_,h=>by
  have:post=[]:=List.eq_nil_of_length_eq_zero (by simpa using h)
  simp[Instr.fill,this]
 |(i,v)::l,k,pre,post,hk,hs,hp,h=>by
  simp only[List.map_cons,aj,List.range'_succ,List.cons.injEq]at hk
  obtain⟨rfl,hk⟩:=hk
  have hv:=hs (i,v) cJ
  simp only at hv
  simp only[aj,Nat.add_mul,Nat.one_mul]at h
  have hlen:¬(v.cells.size≠sz||decide (i*sz+v.cells.size>(pre++post).toArray.size))=true:=by
   simp only[hv,ne_eq,not_true_eq_false,decide_false,Bool.false_or,ak,List.size_toArray,ae,hp,h]
   omega
  simp only[Instr.fill]
  rw[if_neg (by simpa using hlen)]
  have hf:=EP v.cells.toList 0 pre (post.take sz) (by simp[hv,h])
  have hf2:(v.cells.zipIdx.foldl (fun cs (p:Value×Nat)=>cs.setIfInBounds (i*sz+p.2) p.1) (pre++post).toArray)=((pre++v.cells.toList)++post.drop sz).toArray:=by
   rw[←Array.foldl_toList,Array.toList_zipIdx]
   have key:∀(m:List (Value×Nat)) (a:List Value),a.length=(pre++post.take sz).length→(∀p∈m,pre.length+p.2<a.length)→
     m.foldl (fun(cs:Array Value) (p:Value×Nat)=>cs.setIfInBounds (i*sz+p.2) p.1) (a++post.drop sz).toArray=((m.foldl (fun(cs:Array Value) (p:Value×Nat)=>cs.setIfInBounds (pre.length - 0+p.2) p.1) a.toArray).toList++post.drop sz).toArray:=by
    intro m
    induction m with
    |nil=>intro a _ _;simp
    |cons p m ih=>
     intro a ha hm
     have hlt:=hm p cJ
     simp only[List.foldl_cons]
     have e1:((a++post.drop sz).toArray).setIfInBounds (i*sz+p.2) p.1=((a.set (pre.length+p.2) p.1)++post.drop sz).toArray:=by
      rw[←hp]
      simp[List.set_append_left _ _ hlt]
     have e2:(a.toArray).setIfInBounds (pre.length - 0+p.2) p.1=(a.set (pre.length+p.2) p.1).toArray:=by simp
     rw[e1,e2]
     exact ih _ (by simpa using ha) (fun q hq=>by simpa using hm q (by simp[hq]))
   have h3:=key (v.cells.toList.zipIdx) (pre++post.take sz) rfl (fun p hp'=>by
    have:=List.snd_lt_of_mem_zipIdx hp'
    simp[hv]at this
    simp[h]
    omega)
   rw[ap,List.take_append_drop]at h3
   rw[h3]
   rcases hf with hf|hf
   ·rw[hf]
   omega
  rw[hf2,EU sz l (i+1) (pre++v.cells.toList) (post.drop sz) hk (fun p hp'=>hs p (by simp[hp'])) (by simp[hp,hv,Nat.add_mul]) (by simp[h])]
  simp
theorem x0{P:Program}{T n e sz:Nat}{z:Value}{prs:List (Nat×Value)}(ht:P.underlying T=some (.slice e))(hs:∀w,(sizeOf e).run P w= .ok sz w)(hz:∀w,(zeroValue e).run P w= .ok z w)
  (hn:prs.length=n) (hk:prs.map Prod.fst=List.range' 0 prs.length) (h1:∀p∈prs,p.2.cells.size=sz) (hb:n*sz≤16777216) (w:World):
  (Instr.buildSlice T n prs.toArray).run P w= .ok (.slice (some ⟨w.heap.size,0,none⟩) n n) (w.alloc (.cells (prs.flatMap (fun p=>p.2.cells.toList)).toArray e)):=by
 have hlim:¬n*sz>2^24:=by
  have:(2:Nat)^24=16777216:=by decide
  omega
 have key:∀a:Array Value,a.size=n*sz→Instr.fill (fun i=>some (i*sz,sz)) a prs=some (prs.flatMap (fun p=>p.2.cells.toList)).toArray:=fun a ha=>by
  have:=EU sz prs 0 [] a.toList hk h1 cJ (by simp[ha,hn])
  simpa using this
 simp only[Instr.buildSlice,Sem.run_bind,run_underlying ht,Result.andThen_ok,hs]
 by_cases h0:n*sz=0
 ·have hk0:=key (Array.map (fun _=>(default:Value)) (Array.range 0)) (by simp[h0])
  simp[h0,hk0,newRow]
 simp only[hlim,if_false,h0,Sem.run_bind,hz,Result.andThen_ok,Sem.run_pure]
 rw[key _ cJ]
 simp[newRow]
theorem da{n e sz:Nat}{ps:List (Nat×Operand)}{prs:List (Nat×Value)}{vs:List Value}{z:Value}(hp:evP fr ps=some prs)(ht:C.P.underlying T=some (.slice e))(hs:∀w,(sizeOf e).run C.P w= .ok sz w)(hz:∀w,(zeroValue e).run C.P w= .ok z w)
  (hk:(prs.map Prod.fst==List.range' 0 n&&prs.length==n&&prs.all (fun p=>p.2.cells.size==sz))=true) (hb:(Nat.ble (n*sz) 16777216&&Nat.ble n 16777216)=true) (hvs:prs.flatMap (fun p=>p.2.cells.toList)=vs):
  OpT C ⟨d,.buildSlice T n ps.toArray,ty,pos,af,gd⟩ fr cs false (fun v cs'=>∃b,v= .slice (some ⟨b,0,none⟩) n n∧cs'=cs++[slv e sz (some ⟨b,0,none⟩) n n vs]):=fun a w hf hinv next Q h=>by
 subst hvs
 simp only[aB,beq_iff_eq,bE]at hk
 obtain⟨⟨hk1,hk2⟩,hk3⟩:=hk
 obtain⟨hb',hbn⟩:n*sz≤16777216∧n≤16777216:=by simpa[Nat.ble_eq]using hb
 have hr:=x0 (P:=C.P) ht hs hz hk2 (by rw[hk2];exact hk1) hk3 hb' w
 have hl:(prs.flatMap (fun p=>p.2.cells.toList)).length=n*sz:=by
  rw[←hk2]
  clear hr hk1 hk2 hb hb' hp h
  induction prs with
  |nil=>simp
  |cons p l ih=>
   have h1:=hk3 p cJ
   have h2:=ih (fun q hq=>hk3 q (by simp[hq]))
   simp only[List.flatMap_cons,ae,Array.length_toList,h1,h2,aj,Nat.add_mul]
   omega
 have hr':(execOp a.eval ⟨d,.buildSlice T n ps.toArray,ty,pos,af,gd⟩).run C.P w= .ok (.value (.slice (some ⟨w.heap.size,0,none⟩) n n)) (w.alloc (.cells (prs.flatMap (fun p=>p.2.cells.toList)).toArray e)):=by
  have e1:ps.toArray.map (fun p=>(p.1,a.eval p.2))=prs.toArray:=by simp[EX hf hp]
  simp only[execOp]
  rw[show(ps.toArray.map fun(i,x)=>(i,a.eval x))=prs.toArray from e1]
  simp[hr]
 unfold Oper.wp
 rw[hr']
 refine h _ _ _ ⟨_,rfl,rfl⟩ (hinv.more (jO (dC.J6 ((Below.refl _ _).alloc (aN _) _) _) ⟨hl,.inr ⟨w.heap.size,n,_,rfl,au _,heap_alloc_new w _,aN _,?_,by simpa using hl,List.take_of_length_le (by rw[←hl];exact aN _)⟩⟩ fun a ha=>?_)) (fun _=>uo.alloc w _)
 ·simp only[maxLen];omega
 injection ha with ha
 subst ha
 right;exact aN _
theorem EW{fr:Fr}:∀{l:List Operand} {vs:List Value},Ink.evs fr l=some vs→vs.length=l.length
 |[],vs,h=>by simp[Ink.evs]at h;simp[←h]
 |x::l,vs,h=>by
  simp only[Ink.evs]at h
  split at h
  ·rename_i u us hu hus
   simp only[aR]at h
   subst h
   simp[EW hus]
  cases h
theorem I7{fr:Fr}:∀{l:List (Nat×Operand)} {vs:List Value},Ink.evs fr (l.map Prod.snd)=some vs→evP fr l=some (List.zip (l.map Prod.fst) vs)
 |[],_,_=>by simp[evP]
 |(i,x)::l,vs,h=>by
  simp only[List.map_cons,Ink.evs]at h
  split at h
  ·rename_i u us hu hus
   simp only[aR]at h
   subst h
   simp[evP,hu,I7 hus]
  cases h
theorem io{n e:Nat}{ps:List (Nat×Operand)}{vs:List Value}{z:Value}(hp:Ink.evs fr (ps.map Prod.snd)=some vs)(ht:C.P.underlying T=some (.slice e))(hs:∀w,(sizeOf e).run C.P w= .ok 1 w)(hz:∀w,(zeroValue e).run C.P w= .ok z w)
  (hk:(ps.map Prod.fst==List.range' 0 n&&ps.length==n&&Nat.ble n 16777216)=true) (h1:vs.all (·.oneCell')=true):
  OpT C ⟨d,.buildSlice T n ps.toArray,ty,pos,af,gd⟩ fr cs false (fun v cs'=>∃b,v= .slice (some ⟨b,0,none⟩) n n∧cs'=cs++[slv e 1 (some ⟨b,0,none⟩) n n vs]):=by
 simp only[aB,beq_iff_eq]at hk
 obtain⟨⟨hk1,hk2⟩,hk3⟩:=hk
 have hl:vs.length=n:=by rw[EW hp,List.length_map,hk2]
 have hcell:∀v∈vs,v.cells= #[v]:=fun v hv=>by
  have:=bE.1 h1 v hv
  cases v<;>first|rfl|cases this
 have hzip:(List.zip (ps.map Prod.fst) vs).map Prod.snd=vs:=List.map_snd_zip (by simp[hk2,hl])
 have hflat:(List.zip (ps.map Prod.fst) vs).flatMap (fun p=>p.2.cells.toList)=vs:=by
  have:(List.zip (ps.map Prod.fst) vs).flatMap (fun p=>p.2.cells.toList)=((List.zip (ps.map Prod.fst) vs).map Prod.snd).flatMap (fun v=>v.cells.toList):=by simp[List.flatMap_map]
  rw[this,hzip]
  clear hp hl hzip this h1 hk1
  induction vs with
  |nil=>rfl
  |cons v vs ih=>
   rw[List.flatMap_cons,hcell v cJ,ih (fun u hu=>hcell u (by simp[hu]))]
   rfl
 refine da (prs:=List.zip (ps.map Prod.fst) vs) (I7 hp) ht hs hz ?_ ?_ hflat
 ·simp only[aB,beq_iff_eq,bE]
  refine⟨⟨?_,?_⟩,fun p hp'=>?_⟩
  ·rw[List.map_fst_zip (by simp[hk2,hl]),hk1]
  ·simp[hk2,hl]
  have:=hcell p.2 (by rw[←hzip];exact List.mem_map_of_mem hp')
  simp[this]
 simp only[Nat.mul_one,aB]
 exact⟨hk3,hk3⟩
def Ctr(P:Program)(f:FuncId)(args:List Value)(w:World)(cin:List bJ)(K:Value→List bJ→Prop):Prop:=
 Calls P f args.toArray w (fun e w'=>∃v cout,e= .returned v∧K v cout∧Inv w (bK cin) cout w')
theorem Ctr.mono{P:Program}{f:FuncId}{args:List Value}{w:World}{cin:List bJ}{K K':Value→List bJ→Prop}(h:Ctr P f args w cin K)(hk:∀v cout,K v cout→K' v cout):Ctr P f args w cin K':=
 Calls.mono h fun _ _ ⟨v,cout,he,h1,h2⟩=>⟨v,cout,he,hk _ _ h1,h2⟩
theorem zp{f:FuncId}{l:List Operand}{vs:List Value}{ats:Array TypeId}{a:Act}{w:World}(hf:oR C.N fr a)(hl:evs fr l=some vs)(hc:∀args w,(callFunc f args).run C.P w= .ok (.enter f args) w):
  (execOp a.eval ⟨d,.call {callee:= .value (.func f),args:=l.toArray,argTypes:=ats},ty,pos,af,gd⟩).run C.P w= .ok (.enter f vs.toArray) w:=by
 simp[execOp,resolve,invoke,Deferred.ofValue,Act.eval,←z8 hf hl,hc]
theorem eW{f:FuncId}{l:List Operand}{vs:List Value}{ats:Array TypeId}{K:Value→List bJ→Prop}(hl:evs fr l=some vs)(hc:∀args w,(callFunc f args).run C.P w= .ok (.enter f args) w)
  (h:∀w,Inv C.w0 C.S cs w→Ctr C.P f vs w [] K):
  OpT C ⟨d,.call {callee:= .value (.func f),args:=l.toArray,argTypes:=ats},ty,pos,af,gd⟩ fr cs false (fun v cs'=>∃news,K v news∧cs'=cs++news):=fun a w hf hinv next Q hn=>by
 unfold Oper.wp
 rw[zp hf hl hc]
 refine Calls.mono (h w hinv) fun e w' hp=>?_
 obtain⟨v,cout,rfl,hk,hi⟩:=hp
 exact hn _ _ _ ⟨cout,hk,rfl⟩ (hinv.more hi) (fun _=>uo.Kd hi.JJ)
inductive EvL (fr:Fr) (g:Bool):List Operand→List Value→Prop
 |nil:EvL fr g [] []
 |cons {x:Operand} {v:Value} {l:List Operand} {vs:List Value} (h:Ev fr g x v) (t:EvL fr g l vs):EvL fr g (x::l) (v::vs)
theorem EvL.ok{N:Nat}{a:Act}{g:Bool}(hf:oR N fr a)(hg:g=true){l:List Operand}{vs:List Value}(h:EvL fr g l vs):l.map a.eval=vs:=by
 induction h with
 |nil=>rfl
 |cons h _ ih=>simp[h.eval hf hg,ih]
theorem Jc{N:Nat}{g:Bool}{f:FuncId}{l:List Operand}{vs:List Value}{ats:Array TypeId}{v0:Value}{a:Act}{w:World}{next:Act→World→Prop}{Q:kM}(hf:oR N fr a)(hg:g=true)(hl:EvL fr g l vs)(hc:∀args w,(callFunc f args).run C.P w= .ok (.enter f args) w)
  (h:Ctr C.P f vs w [] (fun v cs=>v=v0∧cs=[])) (hn:∀w',dC [] w w'→next (a.put d v0) w'):
  (Oper.mk d (.call {callee:= .value (.func f),args:=l.toArray,argTypes:=ats}) ty pos af gd).wp C.P a w next Q:=by
 unfold Oper.wp
 have hr:(execOp a.eval ⟨d,.call {callee:= .value (.func f),args:=l.toArray,argTypes:=ats},ty,pos,af,gd⟩).run C.P w= .ok (.enter f vs.toArray) w:=by
  simp[execOp,resolve,invoke,Deferred.ofValue,Act.eval,←hl.ok hf hg,hc]
 rw[hr]
 refine Calls.mono h fun e w' hp=>?_
 obtain⟨v,cout,rfl,⟨rfl,rfl⟩,hi⟩:=hp
 exact hn w' hi.JJ
theorem Inv.kept{w0 w w':World}{S:List Nat}(hi:Inv w0 S cs w)(hk:dC [] w w'):Inv w0 S cs w':=by
 have:=hi.more (news:=[]) ⟨hk,by simp[bK],by simp,by simp[bK]⟩
 simpa using this
theorem dE{d:Nat}{Q:kM}{ops:Array Oper}{rest:List Oper}{g:Bool}{f:FuncId}{l:List Operand}{vs:List Value}{ats:Array TypeId}{v0:Value}(hg:bP ops fr ⟨some d,.call {callee:= .value (.func f),args:=l.toArray,argTypes:=ats},ty,pos,af,gd⟩ g)(hl:EvL fr g l vs)
  (hc:∀args w,(callFunc f args).run C.P w= .ok (.enter f args) w) (h:g=true→∀w,Inv C.w0 C.S cs w→Ctr C.P f vs w [] (fun v cs=>v=v0∧cs=[])) (hd:Nat.blt d C.N=true)
  (hn:WL C ops Q rest ((d,bif g then v0 else undef)::fr) cs):WL C ops Q (⟨some d,.call {callee:= .value (.func f),args:=l.toArray,argTypes:=ats},ty,pos,af,gd⟩::rest) fr cs:=fun a w hf hi=>by
 refine wpList_step fun K hK=>?_
 rw[hg _ a hf]
 cases g with
 |true=>
  rw[if_pos rfl]
  exact Jc hf rfl hl hc (h rfl w hi) fun w' hk=>hK _ _ (hn _ w' (hf.put (by simpa[Nat.blt_eq]using hd) _) (hi.kept hk))
 |false=>
  rw[if_neg cJ]
  exact hK _ _ (hn _ w (hf.put (by simpa[Nat.blt_eq]using hd) _) hi)
theorem t_callN{f:FuncId}{l:List Operand}{vs:List Value}{ats:Array TypeId}{K:Value→List bJ→Prop}(cin rest:List bJ)(hl:evs fr l=some vs)(hc:∀args w,(callFunc f args).run C.P w= .ok (.enter f args) w)
  (hp:cs.Perm (cin++rest)) (h:∀w,Inv C.w0 C.S cs w→Ctr C.P f vs w cin K):
  OpT C ⟨d,.call {callee:= .value (.func f),args:=l.toArray,argTypes:=ats},ty,pos,af,gd⟩ fr cs true (fun v cs'=>∃cout,K v cout∧cs'=cout++rest):=fun a w hf hinv next Q hn=>by
 unfold Oper.wp
 rw[zp hf hl hc]
 refine Calls.mono (h w hinv) fun e w' hq=>?_
 obtain⟨v,cout,rfl,hk,hi⟩:=hq
 exact hn _ _ _ ⟨cout,hk,rfl⟩ (hinv.step hp (.refl _) hi.JJ hi) (fun e=>by cases e)
end
def xK(w:World)(S:List Nat)(K:Value→List bJ→Prop)(e:Ending)(w':World):Prop:=∃v cout,e= .returned v∧K v cout∧Inv w S cout w'
def wP:Nat→List Value→Fr
 |_,[]=>[]
 |i,v::vs=>(i,v)::wP (i+1) vs
theorem rE:∀{vs:List Value} {i t:Nat} {v:Value},look (wP i vs) t=some v→∃j,t=i+j∧vs[j]? =some v
 |[],_,_,_,h=>by cases h
 |u::vs,i,t,v,h=>by
  simp only[wP,look]at h
  by_cases e:i=t
  ·subst e
   simp at h
   exact⟨0,rfl,by simp[h]⟩
  have e':Nat.beq i t=false:=by cases h':Nat.beq i t with|false=>rfl|true=>exact absurd (bG h') e
  rw[e']at h
  obtain⟨j,h1,h2⟩:=rE h
  exact⟨j+1,by omega,by simpa using h2⟩
theorem EO{N:Nat}{vs:List Value}(h:vs.length≤N):oR N (wP 0 vs) {tmps:=vs.toArray++Array.replicate (N - vs.toArray.size) undef,defers:=[]}:=by
 refine⟨by simp;omega,rfl,fun t v hl=>?_⟩
 obtain⟨j,e,hj⟩:=rE hl
 obtain rfl:t=j:=by omega
 have hlt:t<vs.length:=(ar.1 hj).1
 rw[ai hlt]at hj
 simp only[aR]at hj
 simp[Array.getElem?_append,hlt,hj]
theorem Inv.start(w:World):Inv w (bK []) [] w:=⟨dC.refl _ _,by simp[bK],by simp,by simp[bK]⟩
theorem bL{P:Program}{f:FuncId}{fn:Func}{c:Code}{N:Nat}{args:List Value}{w:World}{cin:List bJ}{K:Value→List bJ→Prop}(hf:P.funcs[f]? =some fn)(hb:fn.body=some c)(hn:fn.ntmps=N)(hl:Nat.ble args.length N=true)
  (hi:Inv w (bK cin) cin w) (h:WC ⟨P,N,w,bK cin⟩ c (bodyPost P fn (xK w (bK cin) K)) (wP 0 args) cin):Ctr P f args w cin K:=by
 subst hn
 exact calls_of_wp hf hb (h _ w (EO (by simpa[Nat.ble_eq]using hl)) hi)
section
variable {C:Cx} {fr:Fr} {cs cs':List bJ} {fn:Func} {K:Value→List bJ→Prop}
theorem lO{e:Exit}(he:e= .ret∨e= .normal){v:Value}(hs:cs'.Sublist cs)(hr:∀a w,oR C.N fr a→Inv C.w0 C.S cs w→(results fn a.tmps).run C.P w= .ok v w)(hk:K v cs'):QOk C (bodyPost C.P fn (xK C.w0 C.S K)) e fr cs:=fun a w hf hi=>by
 have:a.defers=[]∧∃v,(results fn a.tmps).run C.P w= .ok v w∧xK C.w0 C.S K (.returned v) w:=⟨hf.defs,v,hr a w hf hi,v,cs',rfl,hk,hi.drop hs⟩
 rcases he with rfl|rfl<;>exact this
theorem xH{e:Exit}{t:Nat}{v:Value}(he:e= .ret∨e= .normal)(hs:cs'.Sublist cs)(h0:fn.results= #[.tmp t])(h1:look fr t=some v)(hk:K v cs'):QOk C (bodyPost C.P fn (xK C.w0 C.S K)) e fr cs:=
 lO he hs (fun a w hf _=>by rw[results_tmp h0,hf.at_ t v h1]) hk
theorem rc{e:Exit}{t u:Nat}{v v':Value}(he:e= .ret∨e= .normal)(hs:cs'.Sublist cs)(h0:fn.results= #[.tmp t,.tmp u])(h1:look fr t=some v)(h2:look fr u=some v')(hk:K (.tuple #[v,v']) cs'):QOk C (bodyPost C.P fn (xK C.w0 C.S K)) e fr cs:=
 lO he hs (fun a w hf _=>by rw[results_tmp2 h0,hf.at_ t v h1,hf.at_ u v' h2]) hk
theorem iF{e:Exit}(he:e= .ret∨e= .normal)(hs:cs'.Sublist cs)(h0:fn.results= #[])(hk:K (.tuple #[]) cs'):QOk C (bodyPost C.P fn (xK C.w0 C.S K)) e fr cs:=
 lO he hs (fun a w hf _=>by rw[results_none h0]) hk
theorem gt{w:World}{T bb t:Nat}{xs:List Value}(hT:∀w,(isAgg T).run C.P w= .ok true w)(hz:∀w,(sizeOf T).run C.P w= .ok xs.length w)(hi:Inv C.w0 C.S cs w)(hc:Has cs (row bb xs t)):(loadVar T ⟨bb,0,none⟩).run C.P w= .ok (.agg xs.toArray) w:=by
 have h:=run_loadCells_list (P:=C.P) w ⟨bb,0,none⟩ xs (fun j v hj=>by
  rw[Addr.add_lit,hi.cell hc]
  simpa using hj)
 simp[loadVar,hT,hz,h]
theorem lP{e:Exit}{t T bb tt:Nat}{xs:List Value}(he:e= .ret∨e= .normal)(hs:cs'.Sublist cs)(h0:fn.results= #[.cell t T])(h1:look fr t=some (.pointer (some ⟨bb,0,none⟩)))(hc:Has cs (row bb xs tt))
  (hT:∀w,(isAgg T).run C.P w= .ok true w) (hz:∀w,(sizeOf T).run C.P w= .ok xs.length w) (hk:K (.agg xs.toArray) cs'):QOk C (bodyPost C.P fn (xK C.w0 C.S K)) e fr cs:=
 lO he hs (fun a w hf hi=>by
  have e1:=hf.at_ t _ h1
  simp only[aX]at e1
  simp[results,h0,e1,asAddr,gt hT hz hi hc]) hk
theorem kV{e:Exit}{t T bb tt u:Nat}{v:Value}{xs:List Value}(he:e= .ret∨e= .normal)(hs:cs'.Sublist cs)(h0:fn.results= #[.cell t T,.tmp u])(h1:look fr t=some (.pointer (some ⟨bb,0,none⟩)))(h2:look fr u=some v)(hc:Has cs (row bb xs tt))
  (hT:∀w,(isAgg T).run C.P w= .ok true w) (hz:∀w,(sizeOf T).run C.P w= .ok xs.length w) (hk:K (.tuple #[.agg xs.toArray,v]) cs'):QOk C (bodyPost C.P fn (xK C.w0 C.S K)) e fr cs:=
 lO he hs (fun a w hf hi=>by
  have e1:=hf.at_ t _ h1
  have e2:=hf.at_ u _ h2
  simp only[aX]at e1 e2
  simp[results,h0,e1,e2,asAddr,gt hT hz hi hc]) hk
end
def WI(C:Cx)(St:Dr)(ops:Array Oper)(Q:kM)(fuel:Nat)(listed:Array Bool)(i:Nat)(fr:Fr)(cs:List bJ):Prop:=
 ∀a w,oR C.N fr a→Inv C.w0 C.S cs w→wpOp C.P ops (NoPanic Q) i (fun a' w'=>((St.st i=false→uo w w')∧(cells St.l0 w→cells St.l0 w'))∧pM C.P .any ops (NoPanic Q) St fuel (listed.setIfInBounds i true) a' w') a w
section
variable {C:Cx} {Q:kM} {fr:Fr} {cs:List bJ} {ops:Array Oper} {d:Nat} {op:Op} {ty:TypeId} {pos:String} {af:Array Edge} {gd:Option (Nat×Bool)} {V:World→Prop} {v:Value} {g:Bool}
 {St:Dr} {fuel:Nat} {listed:Array Bool}
theorem ce(i:Nat)(hr:Region.ready .any ops listed=[i])(h:WI C St ops Q fuel listed i fr cs):WA C St ops Q (fuel+1) listed fr cs:=fun a w hf hi=>
 ⟨fun h0=>(by rw[hr]at h0;cases h0),fun j hj=>by rw[hr,aL]at hj;subst hj;exact h a w hf hi⟩
theorem j4(i j:Nat)(hr:Region.ready .any ops listed=[i,j])(h:WI C St ops Q fuel listed i fr cs)(h':WI C St ops Q fuel listed j fr cs):WA C St ops Q (fuel+1) listed fr cs:=fun a w hf hi=>
 ⟨fun h0=>(by rw[hr]at h0;cases h0),fun k hk=>by
  rw[hr]at hk
  simp only[aK,List.not_mem_nil,or_false]at hk
  rcases hk with rfl|rfl
  ·exact h a w hf hi
  exact h' a w hf hi⟩
theorem wa_3(i j l:Nat)(hr:Region.ready .any ops listed=[i,j,l])(h:WI C St ops Q fuel listed i fr cs)(h':WI C St ops Q fuel listed j fr cs)(h'':WI C St ops Q fuel listed l fr cs):WA C St ops Q (fuel+1) listed fr cs:=fun a w hf hi=>
 ⟨fun h0=>(by rw[hr]at h0;cases h0),fun k hk=>by
  rw[hr]at hk
  simp only[aK,List.not_mem_nil,or_false]at hk
  rcases hk with rfl|rfl|rfl
  ·exact h a w hf hi
  ·exact h' a w hf hi
  exact h'' a w hf hi⟩
theorem yL{i:Nat}{st:Bool}{w w':World}(hst:St.st i=st)(hp:st=false→uo w w')(hJ:st=true→cells St.l0 w'):(St.st i=false→uo w w')∧(cells St.l0 w→cells St.l0 w'):=by
 subst hst
 refine⟨hp,fun h=>?_⟩
 cases hb:St.st i with
 |true=>exact hJ hb
 |false=>exact fun x hx=>hp hb _ _ (h x hx)
theorem iZ{i:Nat}{st:Bool}{K:Value→List bJ→Prop}(hi:ops[i]? =some ⟨some d,op,ty,pos,af,none⟩)(hst:St.st i=st)
  (ht:OpT C ⟨some d,op,ty,pos,af,none⟩ fr cs st K) (hJ:st=true→∀v cs',K v cs'→∀w,Inv C.w0 C.S cs' w→cells St.l0 w) (hd:Nat.blt d C.N=true) (h:∀v cs',K v cs'→WA C St ops Q fuel (listed.setIfInBounds i true) ((d,v)::fr) cs'):WI C St ops Q fuel listed i fr cs:=fun a w hf hi'=>by
 unfold wpOp
 rw[hi]
 simp only[Region.wanted,if_true]
 exact .inl (ht a w hf hi' _ _ fun v cs' w' hk hi2 hp=>⟨yL hst hp (fun e=>hJ e v cs' hk w' hi2),h v cs' hk _ w' (hf.put (by simpa[Nat.blt_eq]using hd) v) hi2⟩)
theorem dp{i:Nat}{st:Bool}{K:Value→List bJ→Prop}(hi:ops[i]? =some ⟨none,op,ty,pos,af,none⟩)(hst:St.st i=st)
  (ht:OpT C ⟨none,op,ty,pos,af,none⟩ fr cs st K) (hJ:st=true→∀v cs',K v cs'→∀w,Inv C.w0 C.S cs' w→cells St.l0 w) (h:∀v cs',K v cs'→WA C St ops Q fuel (listed.setIfInBounds i true) fr cs'):WI C St ops Q fuel listed i fr cs:=fun a w hf hi'=>by
 unfold wpOp
 rw[hi]
 simp only[Region.wanted,if_true]
 exact .inl (ht a w hf hi' _ _ fun v cs' w' hk hi2 hp=>⟨yL hst hp (fun e=>hJ e v cs' hk w' hi2),h v cs' hk _ w' hf hi2⟩)
theorem wi_tg{i:Nat}{st:Bool}{K:Value→List bJ→Prop}(hi:ops[i]? =some ⟨some d,op,ty,pos,af,gd⟩)(hst:St.st i=st)
  (hg:bP ops fr ⟨some d,op,ty,pos,af,gd⟩ g) (hg1:g=true)
  (ht:OpT C ⟨some d,op,ty,pos,af,gd⟩ fr cs st K) (hJ:st=true→∀v cs',K v cs'→∀w,Inv C.w0 C.S cs' w→cells St.l0 w) (hd:Nat.blt d C.N=true) (h:∀v cs',K v cs'→WA C St ops Q fuel (listed.setIfInBounds i true) ((d,v)::fr) cs'):WI C St ops Q fuel listed i fr cs:=fun a w hf hi'=>by
 unfold wpOp
 rw[hi]
 simp only[hg _ a hf,hg1,if_true]
 exact .inl (ht a w hf hi' _ _ fun v cs' w' hk hi2 hp=>⟨yL hst hp (fun e=>hJ e v cs' hk w' hi2),h v cs' hk _ w' (hf.put (by simpa[Nat.blt_eq]using hd) v) hi2⟩)
theorem y6{i:Nat}{f:FuncId}{l:List Operand}{vs:List Value}{ats:Array TypeId}{v0:Value}(hi:ops[i]? =some ⟨some d,.call {callee:= .value (.func f),args:=l.toArray,argTypes:=ats},ty,pos,af,gd⟩)
  (hg:bP ops fr ⟨some d,.call {callee:= .value (.func f),args:=l.toArray,argTypes:=ats},ty,pos,af,gd⟩ g) (hl:EvL fr g l vs)
  (hc:∀args w,(callFunc f args).run C.P w= .ok (.enter f args) w) (h:g=true→∀w,Inv C.w0 C.S cs w→Ctr C.P f vs w [] (fun v cs=>v=v0∧cs=[])) (hd:Nat.blt d C.N=true)
  (hn:WA C St ops Q fuel (listed.setIfInBounds i true) ((d,bif g then v0 else undef)::fr) cs):WI C St ops Q fuel listed i fr cs:=fun a w hf hi'=>by
 unfold wpOp
 rw[hi]
 simp only[hg _ a hf]
 cases g with
 |true=>
  rw[if_pos rfl]
  exact .inl (Jc hf rfl hl hc (h rfl w hi') fun w' hk=>⟨⟨fun _=>uo.Kd hk,fun h x hx=>uo.Kd hk _ _ (h x hx)⟩,hn _ w' (hf.put (by simpa[Nat.blt_eq]using hd) _) (hi'.kept hk)⟩)
 |false=>
  rw[if_neg cJ]
  exact⟨⟨fun _ _ _ h=>h,fun h=>h⟩,hn _ w (hf.put (by simpa[Nat.blt_eq]using hd) _) hi'⟩
end
section
variable {C:Cx} {Q:kM} {fr:Fr} {cs:List bJ} {ops:Array Oper} {rest:List Oper} {d:Nat} {dd:Option Tmp} {ty:TypeId} {pos:String} {af:Array Edge} {gd:Option (Nat×Bool)} {v:Value} {g:Bool} {x y:Operand} {T:TypeId}
theorem cD{d:Nat}{op:Op}{St:Dr}{fuel:Nat}{listed:Array Bool}(i:Nat)(hi:ops[i]? =some ⟨some d,op,ty,pos,af,none⟩)(hs:Region.noSelect ops=true)(hfree:Region.free .any ops listed i=true)(hr:(Region.ready .any ops listed).contains i=true)
  (hy:OpY C ⟨some d,op,ty,pos,af,none⟩ fr true Any v) (hd:Nat.blt d C.N=true) (h:WA C St ops Q fuel (listed.setIfInBounds i true) ((d,v)::fr) cs):WA C St ops Q (fuel+1) listed fr cs:=
 wa_y i hi hs hfree hr fy hy hd h
theorem dm{d:Nat}{op:Op}{St:Dr}{fuel:Nat}{listed:Array Bool}(i:Nat){l:List (Addr×Value)}(hi:ops[i]? =some ⟨some d,op,ty,pos,af,none⟩)(hs:Region.noSelect ops=true)(hfree:Region.free .any ops listed i=true)(hst:pP .any ops St.st listed i=true)(hr:(Region.ready .any ops listed).contains i=true)
  (hy:OpY C ⟨some d,op,ty,pos,af,none⟩ fr true (cells l) v) (hV:∀w,Inv C.w0 C.S cs w→cells l w) (hd:Nat.blt d C.N=true) (h:WA C St ops Q fuel (listed.setIfInBounds i true) ((d,v)::fr) cs):WA C St ops Q (fuel+1) listed fr cs:=
 AZ i hi hs hfree hst hr fy hy hV hd h
theorem vg(w:World)(S:List Nat)(e sz:Nat):Inv w S [slv e sz none 0 0 []] w:=jO (dC.refl _ _) ⟨by simp,.inl ⟨rfl,rfl⟩⟩ (fun a h=>by cases h)
theorem dy(e sz:Nat){l:List Oper}(h:WL C ops Q l fr (cs++[slv e sz none 0 0 []])):WL C ops Q l fr cs:=fun a w hf hi=>h a w hf (hi.more (vg w [] e sz))
theorem Wk.cons{fr' fr:Fr}{t:Nat}{v:Value}(h:Ink.look fr' t=some v)(r:Wk fr' fr):Wk fr' ((t,v)::fr):=⟨h,r⟩
theorem Wk.nil{fr':Fr}:Wk fr' []:=trivial
theorem IJ{fr:Fr}{t:Nat}{k:IntKind}{a b:Int}(h:look fr t=some (.int k a))(e:a=b):look fr t=some (.int k b):=by rw[←e];exact h
theorem mR{k:IntKind}{xs:List Int}{j:Nat}(h:j<xs.length):(ints k xs)[j]? =some (.int k (xs[j]'h)):=by simp[ints,h]
theorem cO{k:IntKind}{xs:List Int}:∀u∈ints k xs,u.oneCell'=true:=by
 intro u hu
 obtain⟨x,_,rfl⟩:=bh.1 hu
 rfl
theorem cj{k:IntKind}(xs ys:List Int):ints k xs++ints k ys=ints k (xs++ys):=by simp[ints]
theorem cL{k:IntKind}(xs:List Int):(ints k xs).length=xs.length:=by simp[ints]
theorem iK{k:IntKind}(xs:List Int)(m:Nat):(ints k xs).take m=ints k (xs.take m):=by simp[ints,List.map_take]
theorem mf{k:IntKind}(xs:List Int)(m:Nat):(ints k xs).drop m=ints k (xs.drop m):=by simp[ints,List.map_drop]
theorem fq{F:Prop}{l:List Oper}(hf:∀w,Inv C.w0 C.S cs w→F)(h:F→WL C ops Q l fr cs):WL C ops Q l fr cs:=fun a w hfr hi=>h (hf w hi) a w hfr hi
theorem xP{F:Prop}{c:Code}(hf:∀w,Inv C.w0 C.S cs w→F)(h:F→WC C c Q fr cs):WC C c Q fr cs:=fun a w hfr hi=>h (hf w hi) a w hfr hi
theorem sl_cut{w:World}{k:IntKind}{e c m:Nat}{A:Option Addr}{xs:List Int}(h:(sl k e A xs.length c xs).ok w):(sl k e A (xs.take m).length c (xs.take m)).ok w:=by
 have:=Gp (m:=(xs.take m).length) h (by rw[aC];omega)
 rw[iK]at this
 rw[aC]at this⊢
 rw[show xs.take (min m xs.length)=xs.take m by
  rcases Nat.le_total m xs.length with h1|h1
  ·rw[Nat.min_eq_left h1]
  rw[Nat.min_eq_right h1,bA,List.take_of_length_le h1]]at this
 exact this
theorem jp{xs:List Value}(h:xs.all (·.oneCell')=true):∀u∈xs,u.oneCell'=true:=by simpa using h
theorem yX{ps:List (Nat×Operand)}{prs:List (Nat×Value)}(hp:evP fr ps=some prs)(hr:∀w,(Instr.build T prs.toArray).run C.P w= .ok v w):OpY C ⟨dd,.build T ps.toArray,ty,pos,af,gd⟩ fr g Any v:=fun a w hf _ _=>by
 have e1:ps.toArray.map (fun p=>(p.1,a.eval p.2))=prs.toArray:=by simp[EX hf hp]
 simp only[execOp]
 rw[show(ps.toArray.map fun(i,x)=>(i,a.eval x))=prs.toArray from e1]
 simp[hr w]
def bw(place:Nat→Option (Nat×Nat)):List (Nat×Value)→Option (List (Nat×Value))
 |[]=>some []
 |(i,v)::rest=>match place i with
  |none=>none
  |some (off,size)=>bif Nat.beq v.cells.size size&&Nat.blt 0 size then
    match bw place rest with
    |some ws=>some ((v.cells.toList.zipIdx off).map (fun p=>(p.2,p.1))++ws)
    |none=>none
   else none
inductive fj:List Value→List (Nat×Value)→List Value→Prop
 |nil (cs:List Value):fj cs [] cs
 |cons {cs cs' xs:List Value} {o:Nat} {v:Value} {ws:List (Nat×Value)} (h:nB cs o v cs') (t:fj cs' ws xs):fj cs ((o,v)::ws) xs
theorem fj.split:∀{us ws:List (Nat×Value)} {cs xs:List Value},fj cs (us++ws) xs→∃ms,fj cs us ms∧fj ms ws xs
 |[],_,cs,_,h=>⟨cs,.nil _,h⟩
 |(o,v)::us,ws,cs,xs,h=>by
  cases h with
  |cons h t=>
   obtain⟨ms,h1,h2⟩:=fj.split t
   exact⟨ms,.cons h h1,h2⟩
theorem fj.sets:∀{l:List Value} {j:Nat} {cs ms:List Value} (off:Nat),fj cs ((l.zipIdx j).map (fun p=>(off+p.2,p.1))) ms→
  (l.zipIdx j).foldl (fun(cs:Array Value) (p:Value×Nat)=>cs.setIfInBounds (off+p.2) p.1) cs.toArray=ms.toArray∧ms.length=cs.length∧(l≠[]→off+j+l.length≤cs.length)
 |[],_,_,_,_,h=>by cases h;simp
 |v::l,j,cs,ms,off,h=>by
  simp only[List.zipIdx_cons,List.map_cons]at h
  cases h with
  |cons h t=>
   obtain⟨h1,h2⟩:=h.set
   obtain⟨e1,e2,e3⟩:=fj.sets off t
   refine⟨?_,by rw[e2,←h1];simp,fun _=>?_⟩
   ·simp only[List.zipIdx_cons,List.foldl_cons]
    rw[←e1,←h1]
    simp
   by_cases hn:l=[]
   ·subst hn;simp;omega
   have:=e3 hn
   rw[←h1]at this
   simp at this⊢
   omega
theorem yJ{place:Nat→Option (Nat×Nat)}:∀{prs:List (Nat×Value)} {ws:List (Nat×Value)} {cs xs:List Value},bw place prs=some ws→fj cs ws xs→Instr.fill place cs.toArray prs=some xs.toArray
 |[],ws,cs,xs,h,hb=>by
  simp only[bw,aR]at h
  subst h
  cases hb
  rfl
 |(i,v)::rest,ws,cs,xs,h,hb=>by
  simp only[bw]at h
  cases hpl:place i with
  |none=>simp[hpl]at h
  |some q=>
   obtain⟨off,size⟩:=q
   simp only[hpl]at h
   cases hc:(Nat.beq v.cells.size size&&Nat.blt 0 size)with
   |false=>simp[hc]at h
   |true=>
    simp only[hc,ac]at h
    cases hr:bw place rest with
    |none=>simp[hr]at h
    |some ws'=>
     simp only[hr,aR]at h
     subst h
     simp only[aB,Nat.blt_eq]at hc
     have hsz:v.cells.size=size:=bG hc.1
     obtain⟨ms,h1,h2⟩:=fj.split hb
     have e0:(v.cells.toList.zipIdx off).map (fun p=>(p.2,p.1))=(v.cells.toList.zipIdx 0).map (fun p=>(off+p.2,p.1)):=by
      rw[List.zipIdx_eq_map_add]
      simp[List.map_map,Function.comp_def]
     rw[e0]at h1
     obtain⟨e1,e2,e3⟩:=fj.sets off h1
     have hne:v.cells.toList≠[]:=by
      intro hnil
      have:v.cells.size=0:=by rw[←Array.length_toList,hnil];rfl
      omega
     have hle:=e3 hne
     simp only[Array.length_toList]at hle
     simp only[Instr.fill,hpl]
     rw[if_neg (by simp[hsz];omega)]
     rw[←Array.foldl_toList,Array.toList_zipIdx,e1]
     exact yJ hr h2
def wu(P:Program)(fs:Array Field)(i:Nat):Option (Nat×Nat):=match fs[i]? with
 |some f=>match P.info? f.type with
  |some fi=>some (f.offset,fi.size)
  |none=>none
 |none=>none
theorem oa{P:Program}{w:World}{α β:Type}{f:α→Sem β}{k:α→β}:∀{l:List α},(∀x∈l,(f x).run P w= .ok (k x) w)→(l.mapM f).run P w= .ok (l.map k) w
 |[],_=>by simp
 |x::l,h=>by
  have ih:=oa (l:=l) (fun y hy=>h y (by simp[hy]))
  simp[List.mapM_cons,h x cJ,ih]
theorem Bs{P:Program}{T:TypeId}{fs:Array Field}{z:Value}{zs:List Value}{prs ws:List (Nat×Value)}{xs:List Value}(ht:P.underlying T=some (.struct fs))(hz:∀w,(zeroValue T).run P w= .ok z w)(hzs:z.cells=zs.toArray)
  (hf:fs.toList.all (fun f=>(P.info? f.type).isSome)=true) (hw:bw (wu P fs) prs=some ws) (hb:fj zs ws xs) (w:World):(Instr.build T prs.toArray).run P w= .ok (.agg xs.toArray) w:=by
 have hm:(fs.mapM fun f=>(do pure (f.offset,←sizeOf f.type):Sem (Nat×Nat))).run P w= .ok (fs.map fun f=>(f.offset,((P.info? f.type).map (·.size)).getD 0)) w:=by
  rw[Array.mapM_eq_mapM_toList]
  have:=oa (P:=P) (w:=w) (f:=fun f:Field=>(do pure (f.offset,←sizeOf f.type):Sem (Nat×Nat))) (k:=fun f=>(f.offset,((P.info? f.type).map (·.size)).getD 0)) (l:=fs.toList) (fun f hf'=>by
   have:=bE.1 hf f hf'
   obtain⟨i,hi⟩:=Option.isSome_iff_exists.1 this
   simp[sizeOf,typeInfo,hi])
  rw[Sem.run_map,this]
  simp only[Result.andThen_ok]
  congr 1
  apply Array.ext'
  simp
 have hpl:∀i,(fs.map fun f=>(f.offset,((P.info? f.type).map (·.size)).getD 0))[i]? =wu P fs i:=fun i=>by
  unfold wu
  rw[Array.getElem?_map]
  cases hi:fs[i]? with
  |none=>rfl
  |some f=>
   have:=bE.1 hf f (by simpa using Array.mem_of_getElem? hi)
   obtain⟨j,hj⟩:=Option.isSome_iff_exists.1 this
   simp[hj]
 have hfill:=yJ hw hb
 simp only[Instr.build,Sem.run_bind,hz,Result.andThen_ok,run_underlying ht,hm,hzs]
 rw[show(fun x=>(fs.map fun f=>(f.offset,((P.info? f.type).map (·.size)).getD 0))[x]?)=wu P fs from funext hpl,hfill]
 rfl
theorem qF{fs:Array Field}{z:Value}{zs:List Value}{ps:List (Nat×Operand)}{prs ws:List (Nat×Value)}{xs:List Value}(hp:evP fr ps=some prs)(ht:C.P.underlying T=some (.struct fs))(hz:∀w,(zeroValue T).run C.P w= .ok z w)(hzs:z.cells=zs.toArray)
  (hf:fs.toList.all (fun f=>(C.P.info? f.type).isSome)=true) (hw:bw (wu C.P fs) prs=some ws) (hb:fj zs ws xs):OpY C ⟨dd,.build T ps.toArray,ty,pos,af,gd⟩ fr g Any (.agg xs.toArray):=
 yX hp (Bs ht hz hzs hf hw hb)
theorem yW{z:Value}{zs:List Value}{n e sz:Nat}{ps:List (Nat×Operand)}{prs ws:List (Nat×Value)}{xs:List Value}(hp:evP fr ps=some prs)(ht:C.P.underlying T=some (.array n e))(hz:∀w,(zeroValue T).run C.P w= .ok z w)(hzs:z.cells=zs.toArray)
  (hs:∀w,(sizeOf e).run C.P w= .ok sz w) (hw:bw (fun i=>some (i*sz,sz)) prs=some ws) (hb:fj zs ws xs):OpY C ⟨dd,.build T ps.toArray,ty,pos,af,gd⟩ fr g Any (.agg xs.toArray):=
 yX hp (fun w=>by
  have hfill:=yJ hw hb
  simp only[Instr.build,Sem.run_bind,hz,Result.andThen_ok,run_underlying ht,hs,hzs]
  rw[hfill]
  rfl)
theorem y_slnil{A:Option Addr}{n c:Nat}{e:TypeId}(hT:C.P.underlying T=some (.slice e))(hx:Ev fr g x (.slice A n c)):OpY C ⟨dd,.binOp .eql T x (.const (.slice none 0 0)) T,ty,pos,af,gd⟩ fr g Any (.bool A.isNone):=fun a w hf _ hg=>by
 have hk:a.eval (.const (.slice none 0 0))= .slice none 0 0:=rfl
 have he:(eqGuard .eql T x (.const (.slice none 0 0)) (.slice A n c) (.slice none 0 0)).run C.P w= .ok () w:=rfl
 simp[execOp,hx.eval hf hg,hk,he,Lib.run_eql_slice_nil (P:=C.P) w T e A n c 0 0 hT]
theorem y_pnil{p:Option Addr}{e:TypeId}(hT:C.P.underlying T=some (.pointer e))(hx:Ev fr g x (.pointer p)):OpY C ⟨dd,.binOp .eql T x (.const (.pointer none)) T,ty,pos,af,gd⟩ fr g Any (.bool p.isNone):=fun a w hf _ hg=>by
 have hk:a.eval (.const (.pointer none))= .pointer none:=rfl
 have he:(eqGuard .eql T x (.const (.pointer none)) (.pointer p) (.pointer none)).run C.P w= .ok () w:=rfl
 have hr:(binOp .eql T (.pointer p) (.pointer none)).run C.P w= .ok (.bool p.isNone) w:=by
  have h:∀d:Nat,(Op.equalIn (d+1) T (.pointer p) (.pointer none)).run C.P w= .ok p.isNone w:=fun d=>by
   cases p<;>simp[Op.equalIn,run_underlying hT,samePointer]
  simp only[binOp]
  simp[Op.equal,Op.maxDepth,h 9999]
 simp[execOp,hx.eval hf hg,hk,he,hr]
theorem y_pnn{p:Option Addr}{e:TypeId}(hT:C.P.underlying T=some (.pointer e))(hx:Ev fr g x (.pointer p)):OpY C ⟨dd,.binOp .neq T x (.const (.pointer none)) T,ty,pos,af,gd⟩ fr g Any (.bool p.isSome):=fun a w hf _ hg=>by
 have hk:a.eval (.const (.pointer none))= .pointer none:=rfl
 have he:(eqGuard .neq T x (.const (.pointer none)) (.pointer p) (.pointer none)).run C.P w= .ok () w:=rfl
 have hr:(binOp .neq T (.pointer p) (.pointer none)).run C.P w= .ok (.bool p.isSome) w:=by
  have h:∀d:Nat,(Op.equalIn (d+1) T (.pointer p) (.pointer none)).run C.P w= .ok p.isNone w:=fun d=>by
   cases p<;>simp[Op.equalIn,run_underlying hT,samePointer]
  simp only[binOp]
  simp[Op.equal,Op.maxDepth,h 9999]
 simp[execOp,hx.eval hf hg,hk,he,hr]
theorem rN{w0:World}{S:List Nat}{bb t:Nat}{xs:List Value}(hc:Has cs (row bb xs t)):∀w,Inv w0 S cs w→cells (eJ ⟨bb,0,none⟩ 0 xs) w:=cI hc cJ
theorem AR{d:Nat}{bb t:Nat}{xs:List Value}(hc:Has cs (row bb xs t))(hT:∀w,(isAgg T).run C.P w= .ok true w)(hs:∀w,(sizeOf T).run C.P w= .ok xs.length w)(hx:Ev fr true x (.pointer (some ⟨bb,0,none⟩)))(hd:Nat.blt d C.N=true)
  (h:WL C ops Q rest ((d,.agg xs.toArray)::fr) cs):WL C ops Q (⟨some d,.load T x,ty,pos,af,none⟩::rest) fr cs:=dL (cn hT hs hx) (rN hc) hd h
theorem iQ{d:Nat}{bb t:Nat}{xs:List Value}(hg:bP ops fr ⟨some d,.load T x,ty,pos,af,gd⟩ g)(hc:Has cs (row bb xs t))(hT:∀w,(isAgg T).run C.P w= .ok true w)(hs:∀w,(sizeOf T).run C.P w= .ok xs.length w)(hx:Ev fr g x (.pointer (some ⟨bb,0,none⟩)))(hd:Nat.blt d C.N=true)
  (h:WL C ops Q rest ((d,bif g then .agg xs.toArray else undef)::fr) cs):WL C ops Q (⟨some d,.load T x,ty,pos,af,gd⟩::rest) fr cs:=hH hg (cn hT hs hx) (rN hc) hd h
theorem AY{d:Nat}{bb t:Nat}{xs:List Value}{St:Dr}{fuel:Nat}{listed:Array Bool}(i:Nat)(hi:ops[i]? =some ⟨some d,.load T x,ty,pos,af,none⟩)(hsel:Region.noSelect ops=true)(hfree:Region.free .any ops listed i=true)(hst:pP .any ops St.st listed i=true)(hr:(Region.ready .any ops listed).contains i=true)
  (hc:Has cs (row bb xs t)) (hT:∀w,(isAgg T).run C.P w= .ok true w) (hs:∀w,(sizeOf T).run C.P w= .ok xs.length w) (hx:Ev fr true x (.pointer (some ⟨bb,0,none⟩))) (hd:Nat.blt d C.N=true)
  (h:WA C St ops Q fuel (listed.setIfInBounds i true) ((d,.agg xs.toArray)::fr) cs):WA C St ops Q (fuel+1) listed fr cs:=dm i hi hsel hfree hst hr (cn hT hs hx) (rN hc) hd h
theorem oY{w0:World}{S:List Nat}{e n c j:Nat}{ad:Addr}{xs:List Value}(hc:Has cs (slv e 1 (some ad) n c xs))(hv:xs[j]? =some v):∀w,Inv w0 S cs w→cells [(ad.add (j*1),v)] w:=fun w hi z hz=>by
 rw[aL]at hz
 subst hz
 rw[Nat.mul_one]
 exact(hi.rd hc).at_ ad rfl j v hv
theorem eH{w0:World}{n c j:Nat}{ad:Addr}{xs:List Value}(h:RdV w0 1 (some ad) n c xs)(hv:xs[j]? =some v):∀w,Inv w0 [] cs w→cells [(ad.add (j*1),v)] w:=fun w hi z hz=>by
 rw[aL]at hz
 subst hz
 rw[Nat.mul_one]
 exact(h.Jz hi).at_ ad rfl j v hv
theorem RdV.some_{w:World}{sz n c:Nat}{A:Option Addr}{xs:List Value}(h:RdV w sz A n c xs)(hn:0<n):∃ad,A=some ad:=by
 cases A with
 |none=>have:=(h.nil rfl).1;omega
 |some ad=>exact⟨ad,rfl⟩
end
open Go.RowKit Go.ChangeShapes Go.WideShapes
def Arg(P:Program)(w:World)(t:TypeId)(cs:List Value):Prop:=
 ∃(H:Type) (enc:TypeId×Value→H) (base n:Nat) (x:DataW H×List MemPlace),DataW.trod enc P w base (fun _=>true) true n t cs=some x∧∀m∈x.1.weights P t,m≤reachBytes
def yU(P:Program)(w:World)(t:TypeId)(v:Value):Prop:=(∃r b,Value.okWide P w r b t v)∧Arg P w t v.cells.toList
section
variable {P:Program} {w:World} {t:TypeId} {cs:List Value} {v:Value}
theorem Arg.int{k:IntKind}(ht:P.underlying t=some (.int k))(h:Arg P w t cs):∃n,cs=[.int k n]∧(Lit.int k n).wf=true:=by
 obtain⟨H,enc,base,n,x,h,_⟩:=h
 obtain⟨m,h1,_,h2⟩:=DataW.trod_int ht h
 exact⟨m,h1,h2⟩
theorem Arg.bool(ht:P.underlying t=some .bool)(h:Arg P w t cs):∃b,cs=[.bool b]:=by
 obtain⟨H,enc,base,n,x,h,_⟩:=h
 obtain⟨m,h1,_⟩:=DataW.trod_bool ht h
 exact⟨m,h1⟩
theorem Arg.string(ht:P.underlying t=some .string)(h:Arg P w t cs):∃s,cs=[.string s]∧s.size≤140737488351232:=by
 obtain⟨H,enc,base,n,x,h,hw⟩:=h
 obtain⟨s,h1,h2,_⟩:=DataW.trod_string ht h
 refine⟨s,h1,?_⟩
 rw[h2]at hw
 have:=hw s.data.toList.length (List.mem_cons_self ..)
 have e:s.data.toList.length=s.size:=Array.length_toList
 rw[e]at this
 exact this
theorem G1{H:Type}{ts:List TypeId}{ds:List (DataW H)}{B:Nat}(h:∀m∈DataW.weightsEach P ts ds,m≤B){j:Nat}{u:TypeId}{d:DataW H}(ht:ts[j]? =some u)(hd:ds[j]? =some d):∀m∈d.weights P u,m≤B:=
 fun m hm=>h m (DataW.weights_mem_each ht hd m hm)
theorem yt{H:Type}{e:TypeId}:∀{ds:List (DataW H)} {j:Nat} {d:DataW H},ds[j]? =some d→∀m∈d.weights P e,m∈DataW.weightsAll P e ds
 |[],_,_,hd,_,_=>by simp at hd
 |d0::ds,0,d,hd,m,hm=>by
  simp only[List.getElem?_cons_zero,aR]at hd
  subst hd
  simp only[DataW.weightsAll,aS]
  exact .inl hm
 |d0::ds,j+1,d,hd,m,hm=>by
  simp only[List.getElem?_cons_succ]at hd
  simp only[DataW.weightsAll,aS]
  exact .inr (yt hd m hm)
theorem Arg.struct{fs:Array Field}(ht:P.underlying t=some (.struct fs))(h:Arg P w t cs):cs.length=P.cellsOf t∧∀(i:Nat) (f:Field),fs[i]? =some f→Arg P w f.type ((cs.drop f.offset).take (P.cellsOf f.type)):=by
 obtain⟨H,enc,base,n,x,h,hw⟩:=h
 obtain⟨xs,n',rfl,rfl,hl,hlen,hf⟩:=DataW.trod_struct ht h
 refine⟨hl,fun i f hi=>?_⟩
 have h1:=hf i f hi
 have hlt:i<fs.size:=(Array.getElem?_eq_some_iff.1 hi).1
 have hx:xs[i]? =some (xs[i]'(by omega)):=ai Wq1
 rw[hx]at h1
 refine⟨H,enc,base,n',_,h1,?_⟩
 have:(DataW.agg (xs.map (·.1)):DataW H).weights P t=DataW.weightsEach P (fs.toList.map (·.type)) (xs.map (·.1)):=by simp[DataW.weights,ht]
 rw[this]at hw
 exact G1 hw (j:=i) (by simp[hi]) (by simp[hx])
theorem Arg.slice{e:TypeId}(ht:P.underlying t=some (.slice e))(h:Arg P w t cs):
  cs=[.slice none 0 0]∨∃(a:Addr) (len cap:Nat),cs=[.slice (some a) len cap]∧len≤cap∧cap≤maxLen∧cap*P.bytesOf e≤140737488351232∧
   ∀i,i<cap→∃es base,w.cells? base (a.add (i*P.cellsOf e)) (P.cellsOf e)=some es∧Arg P w e es:=by
 obtain⟨H,enc,base,n,x,h,hw⟩:=h
 rcases DataW.trod_slice ht h with⟨h0,_⟩|⟨a,len,cap,elems,rest,n',rfl,rfl,rfl,_,hl,hm,hlen,hel,hsp,_⟩
 ·exact .inl h0
 obtain⟨hrl,hr⟩:=hsp rfl
 have hw':∀m∈((elems.map (·.1)).length+(rest.map (·.1)).length)*P.bytesOf e::(DataW.weightsAll P e (elems.map (·.1))++DataW.weightsAll P e (rest.map (·.1))),m≤reachBytes:=by
  have:(DataW.slice (elems.map (·.1)) (rest.map (·.1)):DataW H).weights P t=((elems.map (·.1)).length+(rest.map (·.1)).length)*P.bytesOf e::(DataW.weightsAll P e (elems.map (·.1))++DataW.weightsAll P e (rest.map (·.1))):=by simp[DataW.weights,ht]
  rw[←this]
  exact hw
 refine .inr ⟨a,len,cap,rfl,hl,hm,?_,fun i hi=>?_⟩
 ·have:=hw' _ (List.mem_cons_self ..)
  simp only[List.length_map,hlen,hrl]at this
  rw[show len+(cap - len)=cap by omega]at this
  exact this
 by_cases hlt:i<len
 ·have h1:=hel i hlt
  have hx:elems[i]? =some (elems[i]'(by omega)):=ai Wq1
  rw[hx,Option.bind_eq_some_iff]at h1
  obtain⟨es,h2,h3⟩:=h1
  exact⟨es,_,h2,H,enc,base,n',_,h3,fun m hm'=>hw' m (by
   simp only[aK,aS]
   exact .inr (.inl (yt (ds:=elems.map (·.1)) (j:=i) (by simp[hx]) m hm')))⟩
 have h1:=hr (i - len) Wq1
 rw[show len+(i - len)=i by omega]at h1
 have hx:rest[i - len]? =some (rest[i - len]'(by omega)):=ai Wq1
 rw[hx,Option.bind_eq_some_iff]at h1
 obtain⟨es,h2,h3⟩:=h1
 exact⟨es,_,h2,H,enc,base,n',_,h3,fun m hm'=>hw' m (by
  simp only[aK,aS]
  exact .inr (.inr (yt (ds:=rest.map (·.1)) (j:=i - len) (by simp[hx]) m hm')))⟩
theorem Arg.ints{e:TypeId}{k:IntKind}(ht:P.underlying t=some (.slice e))(he:P.underlying e=some (.int k))(hc:P.cellsOf e=1)(h:Arg P w t cs):
  ∃(A:Option Addr) (c:Nat) (xs:List Int),cs=[.slice A xs.length c]∧Rd w k A xs.length c xs∧c*P.bytesOf e≤140737488351232∧∀x,x∈xs→(Lit.int k x).wf=true:=by
 rcases h.slice ht with rfl|⟨a,len,cap,rfl,hl,hm,hb,hi⟩
 ·exact⟨none,0,[],rfl,⟨rfl,aN _,by decide,fun _=>⟨rfl,rfl⟩,fun _ h=>by cases h⟩,by simp,fun x hx=>by cases hx⟩
 have each:∀i:Nat,∃x:Int,i<cap→w.cell? (a.add i)=some (.int k x)∧(Lit.int k x).wf=true:=fun i=>by
  by_cases hlt:i<cap
  ·obtain⟨es,base,h1,h2⟩:=hi i hlt
   obtain⟨x,rfl,hw⟩:=h2.int he
   rw[hc,Nat.mul_one]at h1
   have:=(World.cells?_some h1).2.2 0 Wq1
   rw[Go.Ink.pJ,Nat.add_zero]at this
   exact⟨x,fun _=>⟨by simpa using this,hw⟩⟩
  exact⟨0,fun h=>absurd h hlt⟩
 obtain⟨f,hf⟩:=Classical.axiomOfChoice each
 refine⟨some a,cap,(List.range len).map f,by simp,⟨by simp[ints],by simpa using hl,hm,(fun h=>by cases h),?_⟩,hb,?_⟩
 ·intro ad e j u hu
  obtain rfl:a=ad:=by simpa using e
  simp only[ints,aZ,List.map_map]at hu
  by_cases hj:j<len
  ·rw[List.getElem?_range hj]at hu
   simp only[Option.map_some,aR]at hu
   rw[←hu]
   exact(hf j Wq1).1
  rw[bH (by simp;omega)]at hu
  simp at hu
 intro x hx
 simp only[bh,List.mem_range]at hx
 obtain⟨i,hi',rfl⟩:=hx
 exact(hf i Wq1).2
theorem yU.int{k:IntKind}(ht:P.underlying t=some (.int k))(h:yU P w t v):∃n,v= .int k n∧(Lit.int k n).wf=true:=by
 obtain⟨⟨r,b,ho⟩,h⟩:=h
 obtain⟨n,rfl⟩:=okWide_int ht ho
 obtain⟨m,h1,h2⟩:=h.int ht
 simp[Value.cells]at h1
 subst h1
 exact⟨_,rfl,h2⟩
theorem yU.bool(ht:P.underlying t=some .bool)(h:yU P w t v):∃b,v= .bool b:=by
 obtain⟨⟨r,b,ho⟩,h⟩:=h
 exact okWide_bool ht ho
theorem yU.string(ht:P.underlying t=some .string)(h:yU P w t v):∃s,v= .string s∧s.size≤140737488351232:=by
 obtain⟨⟨r,b,ho⟩,h⟩:=h
 obtain⟨n,rfl⟩:=okWide_string ht ho
 obtain⟨m,h1,h2⟩:=h.string ht
 simp[Value.cells]at h1
 subst h1
 exact⟨_,rfl,h2⟩
theorem yU.ints{e:TypeId}{k:IntKind}(ht:P.underlying t=some (.slice e))(he:P.underlying e=some (.int k))(hc:P.cellsOf e=1)(h:yU P w t v):
  ∃(A:Option Addr) (c:Nat) (xs:List Int),v= .slice A xs.length c∧Rd w k A xs.length c xs∧c*P.bytesOf e≤140737488351232∧∀x,x∈xs→(Lit.int k x).wf=true:=by
 obtain⟨⟨r,b,ho⟩,h⟩:=h
 obtain⟨a,l,c,rfl⟩:=okWide_slice ht ho
 obtain⟨A,c',xs,h1,h2⟩:=h.ints ht he hc
 simp[Value.cells]at h1
 obtain⟨rfl,rfl,rfl⟩:=h1
 exact⟨_,_,_,rfl,h2⟩
theorem yU.struct{fs:Array Field}(ht:P.underlying t=some (.struct fs))(h:yU P w t v):∃cs:List Value,v= .agg cs.toArray∧cs.length=P.cellsOf t∧∀(i:Nat) (f:Field),fs[i]? =some f→Arg P w f.type ((cs.drop f.offset).take (P.cellsOf f.type)):=by
 obtain⟨⟨r,b,ho⟩,h⟩:=h
 obtain⟨⟨cs⟩,rfl,_⟩:=okWide_struct ht ho
 obtain⟨h1,h2⟩:=h.struct ht
 exact⟨cs,rfl,h1,h2⟩
end
def Args(P:Program)(w:World):List TypeId→List Value→Prop
 |[],vs=>vs=[]
 |t::ts,vs=>∃v r,vs=v::r∧yU P w t v∧Args P w ts r
theorem FA{H:Type}{enc:TypeId×Value→H}{P:Program}{W:World}{base:Nat}:∀{ts:List TypeId} {vs:List Value} {ds:List (DataW H)} {p:List MemPlace},DataW.TrodAll enc P W 0 (fun _=>true) true ts vs ds p→
  (∀(j:Nat) t v,ts[j]? =some t→vs[j]? =some v→Value.okWide P W .any base t v)→(∀m∈DataW.weightsEach P ts ds,m≤reachBytes)→Args P W ts vs
 |[],[],[],_,_,_,_=>rfl
 |[],_::_,_,_,h,_,_=>by simp[DataW.TrodAll]at h
 |[],[],_::_,_,h,_,_=>by simp[DataW.TrodAll]at h
 |_::_,[],_,_,h,_,_=>by simp[DataW.TrodAll]at h
 |_::_,_::_,[],_,h,_,_=>by simp[DataW.TrodAll]at h
 |t::ts,v::vs,d::ds,_,h,ho,hw=>by
  obtain⟨p,q,⟨n,hn⟩,h2,_⟩:=h
  refine⟨v,vs,rfl,⟨⟨_,_,ho 0 t v rfl rfl⟩,H,enc,0,n,_,hn,fun m hm=>hw m ?_⟩,FA h2 (fun j t' v' h1 h2=>ho (j+1) t' v' h1 h2) (fun m hm=>hw m ?_)⟩
  ·simp only[DataW.weightsEach,aS];exact .inl hm
  simp only[DataW.weightsEach,aS];exact .inr hm
theorem nT{H:Type}{enc:TypeId×Value→H}{P:Program}(hl:laidOutB P=true){W W':World}(hb:Below W.heap.size W W'):∀{ts:List TypeId} {vs:List Value} {ds:List (DataW H)} {p:List MemPlace},
  ts.all (fun t=>P.readableRec t&&decide (t<P.types.size))=true→DataW.TrodAll enc P W 0 (fun _=>true) true ts vs ds p→DataW.TrodAll enc P W' 0 (fun b=>decide (b<W.heap.size)) true ts vs ds p
 |[],[],[],_,_,h=>h
 |[],_::_,_,_,_,h=>by simp[DataW.TrodAll]at h
 |[],[],_::_,_,_,h=>by simp[DataW.TrodAll]at h
 |_::_,[],_,_,_,h=>by simp[DataW.TrodAll]at h
 |_::_,_::_,[],_,_,h=>by simp[DataW.TrodAll]at h
 |t::ts,v::vs,d::ds,_,ha,h=>by
  obtain⟨p,q,h1,h2,rfl⟩:=h
  simp only[List.all_cons,aB,ak]at ha
  obtain⟨⟨r1,r2⟩,r3⟩:=ha
  refine⟨p,q,Below.trod hl r1 r2 h1 hb ?_,nT hl hb r3 h2,rfl⟩
  obtain⟨m,hm⟩:=h1
  exact DataW.trod_lt m _ _ _ hm
theorem qN{H:Type}{enc:TypeId×Value→H}{P:Program}{W:World}{base:Nat}{sp:Nat→Bool}{hd:Bool}:∀{ts:List TypeId} {vs:List Value} {ds:List (DataW H)} {p:List MemPlace},DataW.TrodAll enc P W base sp hd ts vs ds p→ds.length=ts.length
 |[],[],[],_,_=>rfl
 |[],_::_,_,_,h=>by simp[DataW.TrodAll]at h
 |[],[],_::_,_,h=>by simp[DataW.TrodAll]at h
 |_::_,[],_,_,h=>by simp[DataW.TrodAll]at h
 |_::_,_::_,[],_,h=>by simp[DataW.TrodAll]at h
 |t::ts,v::vs,d::ds,_,h=>by
  obtain⟨p,q,h1,h2,rfl⟩:=h
  simp[qN h2]
section
variable {C:Cx} {Q:kM} {fr:Fr} {cs:List bJ} {ops:Array Oper} {d:Nat} {op:Op} {ty T:TypeId} {pos:String} {af:Array Edge} {gd:Option (Nat×Bool)} {V:World→Prop} {v:Value} {g:Bool} {x:Operand}
 {St:Dr} {fuel:Nat} {listed:Array Bool}
theorem wi_y{i:Nat}(hi:ops[i]? =some ⟨some d,op,ty,pos,af,gd⟩)(hg:bP ops fr ⟨some d,op,ty,pos,af,gd⟩ g)(hy:OpY C ⟨some d,op,ty,pos,af,gd⟩ fr g V v)(hV:∀w,Inv C.w0 C.S cs w→V w)(hd:Nat.blt d C.N=true)
  (hn:WA C St ops Q fuel (listed.setIfInBounds i true) ((d,bif g then v else undef)::fr) cs):WI C St ops Q fuel listed i fr cs:=fun a w hf hi'=>by
 unfold wpOp
 rw[hi]
 simp only[hg _ a hf]
 cases g with
 |true=>
  rw[if_pos rfl]
  refine .inl ?_
  unfold Oper.wp
  rw[hy a w hf (hV w hi') rfl]
  exact⟨⟨fun _ _ _ h=>h,fun h=>h⟩,hn _ w (hf.put (by simpa[Nat.blt_eq]using hd) _) hi'⟩
 |false=>
  rw[if_neg cJ]
  exact⟨⟨fun _ _ _ h=>h,fun h=>h⟩,hn _ w (hf.put (by simpa[Nat.blt_eq]using hd) _) hi'⟩
theorem AU{i:Nat}(hi:ops[i]? =some ⟨some d,op,ty,pos,af,none⟩)(hy:OpY C ⟨some d,op,ty,pos,af,none⟩ fr true V v)(hV:∀w,Inv C.w0 C.S cs w→V w)(hd:Nat.blt d C.N=true)
  (hn:WA C St ops Q fuel (listed.setIfInBounds i true) ((d,v)::fr) cs):WI C St ops Q fuel listed i fr cs:=wi_y hi fy hy hV hd hn
theorem jH{i:Nat}{bb t:Nat}{xs:List Value}(hi:ops[i]? =some ⟨some d,.load T x,ty,pos,af,none⟩)
  (hc:Has cs (row bb xs t)) (hT:∀w,(isAgg T).run C.P w= .ok true w) (hs:∀w,(sizeOf T).run C.P w= .ok xs.length w) (hx:Ev fr true x (.pointer (some ⟨bb,0,none⟩))) (hd:Nat.blt d C.N=true)
  (h:WA C St ops Q fuel (listed.setIfInBounds i true) ((d,.agg xs.toArray)::fr) cs):WI C St ops Q fuel listed i fr cs:=AU hi (cn hT hs hx) (rN hc) hd h
end
section
variable {C:Cx} {Q:kM} {fr:Fr} {cs:List bJ} {ops:Array Oper} {rest:List Oper} {d:Option Nat} {op:Op} {ty T T':TypeId} {pos:String} {af:Array Edge} {gd:Option (Nat×Bool)} {v:Value} {g p:Bool} {x y:Operand}
def JQ(A:Option Addr)(xs:List Value):List (Addr×Value):=match A with|none=>[]|some ad=>eJ ad 0 xs
theorem RdV.JQ{w:World}{n c:Nat}{A:Option Addr}{xs:List Value}(h:RdV w 1 A n c xs):cells (Ink.JQ A xs) w:=by
 cases A with
 |none=>intro x hx;cases hx
 |some ad=>
  intro x hx
  obtain⟨j,h1,h2⟩:=gC hx
  rw[h2,bl]
  exact h.at_ ad rfl j _ h1
theorem lD{A:Option Addr}{n c e:Nat}{xs:List Int}(hS:C.P.underlying T=some (.slice e))(he:C.P.underlying e=some (.int .u8))(hD:C.P.underlying T'=some .string)(hx:Ev fr g x (.slice A n c))(hrd:∃w,Rd w .u8 A n c xs):
  OpY C ⟨d,.convert T T' x,ty,pos,af,gd⟩ fr g (cells (JQ A (ints .u8 xs))) (.string (strOfNums xs)):=fun a w hf hV hg=>by
 obtain⟨w1,hrd⟩:=hrd
 have hn:xs.length=n:=by have:=hrd.len;rw[cL]at this;omega
 have h0:A=none→n=0:=fun e=>(hrd.nil e).1
 have hr:(convert T T' (.slice A n c)).run C.P w= .ok (.string (strOfNums xs)) w:=by
  cases A with
  |none=>
   have e1:xs=[]:=by have:=h0 rfl;subst this;exact List.eq_nil_of_length_eq_zero hn
   subst e1
   exact run_convert_bytes_nil w T e hS he n c T' hD
  |some ad=>
   have hl:(loadCells ad n).run C.P w= .ok (xs.map (Value.int .u8)).toArray w:=by
    have:=run_loadCells_list (P:=C.P) w ad (xs.map (Value.int .u8)) (fun j v hj=>by
     have h1:=hV (ad.add (0+j),v) (lh (vs:=ints .u8 xs) hj)
     rw[bl]at h1
     exact h1)
    simpa[hn]using this
   rw[run_convert_bytes_string w T T' e _ n c hS he hD,run_bytesToString w _ n c xs hl,foldl_push_bytes]
   simp[strOfNums,ByteArray.empty,ByteArray.emptyWithCapacity]
   rfl
 simp[execOp,hx.eval hf hg,hr]
theorem qE{a b:ByteArray}(hT:C.P.underlying T=some .string)(hx:Ev fr g x (.string a))(hy:Ev fr g y (.string b))(hr:(a.data.toList==b.data.toList)=p):OpY C ⟨d,.binOp .eql T x y T',ty,pos,af,gd⟩ fr g Any (.bool p):=fun A w hf _ hg=>by
 subst hr
 rw[←ByteArray.toList_eq a,←ByteArray.toList_eq b]
 have:(binOp .eql T (.string a) (.string b)).run C.P w= .ok (.bool (a.toList==b.toList)) w:=rfl
 simp[execOp,hx.eval hf hg,hy.eval hf hg,this,eqGuard]
theorem y_neqS{a b:ByteArray}(hT:C.P.underlying T=some .string)(hx:Ev fr g x (.string a))(hy:Ev fr g y (.string b))(hr:(a.data.toList !=b.data.toList)=p):OpY C ⟨d,.binOp .neq T x y T',ty,pos,af,gd⟩ fr g Any (.bool p):=fun A w hf _ hg=>by
 subst hr
 rw[←ByteArray.toList_eq a,←ByteArray.toList_eq b]
 have:(binOp .neq T (.string a) (.string b)).run C.P w= .ok (.bool (a.toList !=b.toList)) w:=rfl
 simp[execOp,hx.eval hf hg,hy.eval hf hg,this,eqGuard]
theorem Dg:∀{xs ys:List Int},(∀n,n∈xs→0≤n∧n≤255)→(∀n,n∈ys→0≤n∧n≤255)→(strOfNums xs).data.toList=(strOfNums ys).data.toList→xs=ys
 |[],[],_,_,_=>rfl
 |[],_::_,_,_,h=>by simp[strOfNums_data]at h
 |_::_,[],_,_,h=>by simp[strOfNums_data]at h
 |x::xs,y::ys,hx,hy,h=>by
  simp only[strOfNums_data,List.map_cons,List.cons.injEq]at h
  have h1:=hx x cJ
  have h2:=hy y cJ
  have e:=congrArg UInt8.toNat h.1
  simp only[UInt8.toNat_ofNat']at e
  have:=Dg (xs:=xs) (ys:=ys) (fun n hn=>hx n (by simp[hn])) (fun n hn=>hy n (by simp[hn])) h.2
  rw[this]
  congr 1
  omega
theorem nX{xs ys:List Int}(hx:∀n,n∈xs→0≤n∧n≤255)(hy:∀n,n∈ys→0≤n∧n≤255):((strOfNums xs).data.toList==(strOfNums ys).data.toList)=(xs==ys):=by
 by_cases h:xs=ys
 ·subst h;simp
 have:(strOfNums xs).data.toList≠(strOfNums ys).data.toList:=fun e=>h (Dg hx hy e)
 rw[beq_eq_false_iff_ne.2 h,beq_eq_false_iff_ne.2 this]
theorem qL{d:Nat}{bb t:Nat}{xs:List Value}{St:Dr}{fuel:Nat}{listed:Array Bool}(i:Nat)(hi:ops[i]? =some ⟨some d,.load T x,ty,pos,af,gd⟩)(hsel:Region.noSelect ops=true)(hfree:Region.free .any ops listed i=true)(hst:pP .any ops St.st listed i=true)(hr:(Region.ready .any ops listed).contains i=true)
  (hg:bP ops fr ⟨some d,.load T x,ty,pos,af,gd⟩ g)
  (hc:Has cs (row bb xs t)) (hT:∀w,(isAgg T).run C.P w= .ok true w) (hs:∀w,(sizeOf T).run C.P w= .ok xs.length w) (hx:Ev fr g x (.pointer (some ⟨bb,0,none⟩))) (hd:Nat.blt d C.N=true)
  (h:WA C St ops Q fuel (listed.setIfInBounds i true) ((d,bif g then .agg xs.toArray else undef)::fr) cs):WA C St ops Q (fuel+1) listed fr cs:=AZ i hi hsel hfree hst hr hg (cn hT hs hx) (rN hc) hd h
theorem fo{bb o n c e:Nat}{xs:List Value}{mk:bJ→List bJ}(hT:∀w,(sizeOf T).run C.P w= .ok 1 w)(hx:ev fr x=some (.pointer (some ⟨bb,o,none⟩)))(hy:ev fr y=some v)(h1:v.oneCell'=true)(hu:At cs (slv e 1 (some ⟨bb,0,none⟩) n c xs) mk)(ho:o<n):
  OpT C ⟨d,.store T x y,ty,pos,af,gd⟩ fr cs true (fun u cs'=>u=undef∧cs'=mk (slv e 1 (some ⟨bb,0,none⟩) n c (xs.set o v))):=fun a w hf hi next Q h=>by
 have hown:w.ownsRow 0 e 1 (.slice (some ⟨bb,0,none⟩) n c) n xs:=hi.get hu.has
 have hlen:=hown.1
 have hc:w.cell? ⟨bb,o,none⟩=some (xs[o]'(by omega)):=by
  rw[hown.cellAt o Wq1]
  exact ai Wq1
 have hfz:w.frozen? ⟨bb,o,none⟩=false:=hown.frozenAt o
 have hcs:v.cells= #[v]:=by cases v<;>first|rfl|cases h1
 have hr:(execOp a.eval ⟨d,.store T x y,ty,pos,af,gd⟩).run C.P w= .ok .skip (w.setCell ⟨bb,o,none⟩ v):=by
  simp[execOp,hf.ev hx,hf.ev hy,Instr.storeAt,Instr.sureAddr,storeVar,hT,hcs,storeCells,Addr.add_lit,run_store _ _ _ v _ h1,hc,hfz,stored]
 unfold Oper.wp
 rw[hr]
 obtain⟨h2,h3⟩:=hown.stored o v
 have hk:=dC.Ke (show w.grownBy (w.setCell ⟨bb,o,none⟩ v) (Value.slice (some ⟨bb,0,none⟩) n c).ownBlock from h3)
 refine h _ _ _ ⟨rfl,rfl⟩ (hi.upd (hu _) hk (jO hk h2 fun a ha=>?_)) (fun e=>by cases e)
 obtain rfl:(⟨bb,0,none⟩:Addr)=a:=by simpa using ha
 left;simp[slv,bJ.bs,ab]
theorem cu{bb o n c j r:Nat}{i:Int}{k:IntKind}{e sz:Nat}(hT:C.P.underlying T=some (.slice e))(hs:∀w,(sizeOf e).run C.P w= .ok sz w)(hx:Ev fr g x (.slice (some ⟨bb,o,none⟩) n c))(hy:Ev fr g y (.int k i))(hi:g=true→i=(j:Int))(hn:g=true→j<n)(hr:o+j*sz=r):
  OpY C ⟨d,.indexAddr T x y,ty,pos,af,gd⟩ fr g Any (.pointer (some ⟨bb,r,none⟩)):=by
 subst hr
 have h:=cU (C:=C) (d:=d) (ty:=ty) (pos:=pos) (af:=af) (gd:=gd) (T:=T) (fr:=fr) (g:=g) hT hs hx hy hi hn
 rw[Addr.add_lit]at h
 exact h
theorem du{w0:World}{S:List Nat}{e n c j bb:Nat}{xs:List Value}(hc:Has cs (slv e 1 (some ⟨bb,0,none⟩) n c xs))(hv:xs[j]? =some v):∀w,Inv w0 S cs w→cells [(⟨bb,j,none⟩,v)] w:=fun w hi z hz=>by
 rw[aL]at hz
 subst hz
 have:=(hi.rd hc).at_ _ rfl j v hv
 rw[Addr.add_lit,bl]at this
 exact this
theorem om{w0:World}{S:List Nat}{n c j:Nat}{ad:Addr}{xs:List Value}(h:∀w',dC S w0 w'→RdV w' 1 (some ad) n c xs)(hv:xs[j]? =some v):∀w,Inv w0 S cs w→cells [(ad.add (j*1),v)] w:=fun w hi=>
 eH (cs:=[]) (h w hi.JJ) hv w ⟨dC.refl _ _,by simp[bK],(fun _ h=>by cases h),(fun _ h=>by simp[bK]at h)⟩
inductive Del:List bJ→bJ→List bJ→Prop
 |head (c:bJ) (cs:List bJ):Del (c::cs) c cs
 |tail (d:bJ) {cs rest:List bJ} {c:bJ} (h:Del cs c rest):Del (d::cs) c (d::rest)
inductive xD:List bJ→List bJ→Prop
 |nil (cs:List bJ):xD [] cs
 |cons {cs rest cs':List bJ} {c:bJ} (h:Del cs c rest) (r:xD cs' rest):xD (c::cs') cs
theorem Del.perm{cs rest:List bJ}{c:bJ}(h:Del cs c rest):cs.Perm (c::rest):=by
 induction h with
 |head=>exact .refl _
 |tail d _ ih=>exact(ih.cons d).trans (.swap _ _ _)
theorem xD.perm{cs' cs:List bJ}(h:xD cs' cs):∃r,cs.Perm (cs'++r):=by
 induction h with
 |nil cs=>exact⟨cs,.refl _⟩
 |cons h _ ih=>
  obtain⟨r,ih⟩:=ih
  exact⟨r,h.perm.trans (ih.cons _)⟩
theorem Inv.pick{w0 w:World}{S:List Nat}{cs':List bJ}(h:Inv w0 S cs w)(hp:xD cs' cs):Inv w0 S cs' w:=by
 obtain⟨r,hr⟩:=hp.perm
 have h2:Inv w0 S (cs'++r) w:=⟨h.JJ,((hr.flatMap_right bJ.bs).nodup_iff).1 h.nodup,fun c hc=>h.ok c (hr.mem_iff.2 hc),fun b hb=>by
  obtain⟨c,hc,hbc⟩:=dc.1 hb
  exact h.own b (dc.2 ⟨c,hr.mem_iff.2 hc,hbc⟩)⟩
 exact h2.drop (List.sublist_append_left _ _)
theorem jF(cs':List bJ){l:List Oper}(hp:xD cs' cs)(h:WL C ops Q l fr cs'):WL C ops Q l fr cs:=fun a w hf hi=>h a w hf (hi.pick hp)
theorem bN(cs':List bJ){e:Exit}(hp:xD cs' cs)(h:QOk C Q e fr cs'):QOk C Q e fr cs:=fun a w hf hi=>h a w hf (hi.pick hp)
theorem bY{σ:Type}{F:σ→Fr}{G:σ→List bJ}{ok:σ→Prop}(s:σ)(ho:ok s)(hf:Wk fr (F s))(hg:xD (G s) cs):QOk C (Exit.then (Mid C F G ok) Q) .normal fr cs:=
 fun _ _ hfr hi=>⟨s,ho,hfr.weaken hf,hi.pick hg⟩
theorem Inv.one{w0 w:World}{S:List Nat}{c:bJ}(h:Inv w0 S cs w)(hc:Has cs c):Inv w (bK [c]) [c] w:=by
 refine⟨dC.refl _ _,?_,fun c' h'=>?_,fun b hb=> .inl hb⟩
 ·have:([c]:List bJ).Sublist cs:=List.singleton_sublist.2 hc.mem
  exact(kk this).nodup h.nodup
 simp only[aL]at h'
 subst h'
 exact h.get hc
inductive xF:List bJ→bJ→bJ→Prop
 |l {cs:List bJ} {c:bJ} (d:bJ) (h:Has cs c):xF (d::cs) d c
 |r {cs:List bJ} {c:bJ} (d:bJ) (h:Has cs c):xF (d::cs) c d
 |t (d:bJ) {cs:List bJ} {c c':bJ} (h:xF cs c c'):xF (d::cs) c c'
theorem xF.fst{c c':bJ}(h:xF cs c c'):Has cs c:=by
 induction h with
 |l d h=>exact .head _ _
 |r d h=>exact .tail _ h
 |t d _ ih=>exact .tail _ ih
theorem xF.snd{c c':bJ}(h:xF cs c c'):Has cs c':=by
 induction h with
 |l d h=>exact .tail _ h
 |r d h=>exact .head _ _
 |t d _ ih=>exact .tail _ ih
theorem xF.disj{c c':bJ}(h:xF cs c c'):(bK cs).Nodup→∀b,b∈c.bs→b∉c'.bs:=by
 induction h with
 |l d h=>
  intro hn b hb hb'
  rw[dV]at hn
  exact(List.nodup_append.1 hn).2.2 b hb b (dc.2 ⟨_,h.mem,hb'⟩) rfl
 |r d h=>
  intro hn b hb hb'
  rw[dV]at hn
  exact(List.nodup_append.1 hn).2.2 b hb' b (dc.2 ⟨_,h.mem,hb⟩) rfl
 |t d _ ih=>
  intro hn
  rw[dV]at hn
  exact ih (List.nodup_append.1 hn).2.1
theorem Inv.rdK{w0 w w':World}{S:List Nat}{c:bJ}{e sz n cc:Nat}{A:Option Addr}{xs:List Value}(h:Inv w0 S cs w)(h2:xF cs c (slv e sz A n cc xs))(hk:dC (bK [c]) w w'):RdV w' sz A n cc xs:=by
 have hc:=h.get h2.snd
 refine de ((slv e sz A n cc xs).loc w w' (fun b hb=>hk.block b ((slv e sz A n cc xs).lt w hc b hb) fun hin=>?_) hc)
 have:b∈c.bs:=by simpa[bK]using hin
 exact h2.disj h.nodup b this hb
theorem RdV.oldK{w0 w w':World}{c:bJ}{sz n cc:Nat}{A:Option Addr}{xs:List Value}(h:RdV w0 sz A n cc xs)(hi:Inv w0 [] cs w)(hc:Has cs c)(hk:dC (bK [c]) w w'):RdV w' sz A n cc xs:=
 ⟨h.len,h.cap,h.max,h.nil,fun ad e j u hu=>by
  have h1:=h.at_ ad e j u hu
  have hlt:=World.block_lt_of_cell? w0 _ h1
  refine(World.cell?_of_block ((hk.block _ (Nat.lt_of_lt_of_le hlt hi.JJ.size) fun hin=>?_).trans (hi.JJ.block _ hlt cJ))).trans h1
  have:(ad.add j).block∈c.bs:=by simpa[bK]using hin
  rcases hi.own _ (dc.2 ⟨c,hc.mem,this⟩)with h2|h2
  ·cases h2
  omega⟩
def qY(bb:Nat)(xs:List Value):List (Addr×Value):=(xs.zipIdx).map fun p=>(⟨bb,p.2,none⟩,p.1)
theorem mH{bb o:Nat}{xs:List Value}(h:xs[o]? =some v):((⟨bb,o,none⟩:Addr),v)∈qY bb xs:=by
 simp only[qY,bh]
 refine⟨(v,o),?_,rfl⟩
 rw[List.mk_mem_zipIdx_iff_getElem?]
 exact h
theorem bQ{w0:World}{S:List Nat}{bb t:Nat}{xs:List Value}(hc:Has cs (row bb xs t)):∀w,Inv w0 S cs w→cells (qY bb xs) w:=fun w hi x hx=>by
 simp only[qY,bh]at hx
 obtain⟨⟨u,o⟩,h1,rfl⟩:=hx
 rw[List.mk_mem_zipIdx_iff_getElem?]at h1
 rw[hi.cell hc]
 exact h1
theorem fJ{l l':List (Addr×Value)}{w0:World}{S:List Nat}(h:∀w,Inv w0 S cs w→cells l w)(h':∀w,Inv w0 S cs w→cells l' w):∀w,Inv w0 S cs w→cells (l++l') w:=fun w hi x hx=>
 (aS.1 hx).elim (h w hi x) (h' w hi x)
theorem cQ{k:IntKind}{l:List Int}{j:Nat}{a:Int}(h:l[j]? =some a):(ints k l)[j]? =some (.int k a):=by simp[ints,h]
theorem ju{e n:Nat}{z:Value}{bytes:Nat}{kl kc:IntKind}{i1 i2:Int}(ht:C.P.underlying T=some (.slice e))(hinfo:(C.P.info? e).map (fun i=>(i.zero,i.size,i.bytes))=some (some z,1,bytes))(hz1:z.cells= #[z])
  (hx:ev fr x=some (.int kl i1)) (hy:ev fr y=some (.int kc i2)) (h1:i1=(n:Int)) (h2:i2=(n:Int)) (cF:bytes*n≤281474976710656) (h63:n≤maxLen):
  OpT C ⟨d,.makeSlice T x y,ty,pos,af,gd⟩ fr cs false (fun v cs'=>∃b,v= .slice (some ⟨b,0,none⟩) n n∧cs'=cs++[slv e 1 (some ⟨b,0,none⟩) n n (List.replicate n z)]):=fun a w hf hi next Q h=>by
 subst h1 h2
 obtain⟨i,hi',hzz⟩:=Option.map_eq_some_iff.1 hinfo
 simp only[aW]at hzz
 obtain⟨hz,hs,hb⟩:=hzz
 obtain⟨w',jo,ho,hg⟩:=run_make_full (P:=C.P) w 0 T e i z 1 ht hi' hz hs kl kc n (by rw[hb];exact cF) h63 Wq1
 have hr:(execOp a.eval ⟨d,.makeSlice T x y,ty,pos,af,gd⟩).run C.P w= .ok (.value (.slice (some ⟨w.heap.size,0,none⟩) n n)) w':=by
  simp[execOp,hf.ev hx,hf.ev hy,jo]
 unfold Oper.wp
 rw[hr]
 rw[hz1,Nat.mul_one,toList_madeCells_one]at ho
 have hk:dC [] w w':=⟨hg.os,hg.tape,hg.output,hg.size,fun b hb _=>hg.block b hb cJ⟩
 refine h _ _ _ ⟨_,rfl,rfl⟩ (hi.more (jO hk ho fun a ha=>?_)) (fun _=>?_)
 ·right
  obtain rfl:(⟨w.heap.size,0,none⟩:Addr)=a:=by simpa using ha
  exact aN _
 intro ad v hv
 exact(World.cell?_of_block (hk.block _ (World.block_lt_of_cell? w _ hv) cJ)).trans hv
end
theorem CJ{C:Cx}{Q:kM}{fr:Fr}{cs:List bJ}{ops:Array Oper}{St:Dr}{fuel:Nat}{listed:Array Bool}(e sz:Nat)(h:WA C St ops Q fuel listed fr (cs++[slv e sz none 0 0 []])):WA C St ops Q fuel listed fr cs:=fun a w hf hi=>h a w hf (hi.more (vg w [] e sz))
theorem fM{w:World}{e n c:Nat}{A:Option Addr}{xs:List Value}(h:(slv e 1 A n c xs).ok w)(hn:0<n):∃b,A=some ⟨b,0,none⟩:=by
 rcases h.2 with⟨_,h'⟩|⟨g',cap',cur,h',_⟩
 ·omega
 simp only[Value.slice.injEq]at h'
 exact⟨g',h'.1⟩
def exC{α:Type}(bs:List Nat)(F:α→List bJ)(hb:∀a,bK (F a)=bs)(p:α→Prop):bJ:=
 .gen bs (fun w=>∃a,p a∧(bK (F a)).Nodup∧∀c,c∈F a→c.ok w)
  (fun w w' h ⟨a,h1,h2,h3⟩=>⟨a,h1,h2,fun c hc=>c.loc w w' (fun b hbc=>h b (by rw[←hb a];exact dc.2 ⟨c,hc,hbc⟩)) (h3 c hc)⟩)
  (fun w ⟨a,h1,h2,h3⟩ b hbb=>by
   rw[←hb a]at hbb
   obtain⟨c,hc,hbc⟩:=dc.1 hbb
   exact c.lt w (h3 c hc) b hbc)
theorem Inv.perm{w0 w:World}{S:List Nat}{cs cs':List bJ}(h:Inv w0 S cs w)(hp:cs.Perm cs'):Inv w0 S cs' w:=
 ⟨h.JJ,((hp.flatMap_right bJ.bs).nodup_iff).1 h.nodup,fun c hc=>h.ok c (hp.mem_iff.2 hc),fun b hb=>by
  obtain⟨c,hc,hbc⟩:=dc.1 hb
  exact h.own b (dc.2 ⟨c,hp.mem_iff.2 hc,hbc⟩)⟩
theorem Inv.Kj{α:Type}{w0 w:World}{S:List Nat}{rest:List bJ}{bs:List Nat}{F:α→List bJ}{hb:∀a,bK (F a)=bs}{p:α→Prop}(h:Inv w0 S (exC bs F hb p::rest) w):∃a,p a∧Inv w0 S (F a++rest) w:=by
 obtain⟨a,h1,h2,h3⟩:=h.ok _ (List.mem_cons_self ..)
 have e:bK (F a++rest)=bK (exC bs F hb p::rest):=by rw[fO,dV,hb a];rfl
 refine⟨a,h1,h.JJ,by rw[e];exact h.nodup,fun c hc=>?_,by rw[e];exact h.own⟩
 rcases aS.1 hc with hc|hc
 ·exact h3 c hc
 exact h.ok c (bC _ hc)
theorem Inv.J2{α:Type}{w0 w:World}{S:List Nat}{rest:List bJ}{bs:List Nat}{F:α→List bJ}{hb:∀a,bK (F a)=bs}{p:α→Prop}(a:α)(hp:p a)(h:Inv w0 S (F a++rest) w):Inv w0 S (exC bs F hb p::rest) w:=by
 have e:bK (F a++rest)=bK (exC bs F hb p::rest):=by rw[fO,dV,hb a];rfl
 have hn:=h.nodup
 rw[fO]at hn
 refine⟨h.JJ,by rw[←e];exact h.nodup,fun c hc=>?_,by rw[←e];exact h.own⟩
 rcases aK.1 hc with rfl|hc
 ·exact⟨a,hp,(List.nodup_append.1 hn).1,fun c hc=>h.ok c (aS.2 (.inl hc))⟩
 exact h.ok c (aS.2 (.inr hc))
inductive ji:List bJ→List bJ→List bJ→Prop
 |nil (cs:List bJ):ji [] cs cs
 |cons {cs rest r:List bJ} {c:bJ} {cs':List bJ} (h:Del cs c rest) (s:ji cs' rest r):ji (c::cs') cs r
theorem ji.perm{cs' cs r:List bJ}(h:ji cs' cs r):cs.Perm (cs'++r):=by
 induction h with
 |nil cs=>exact .refl _
 |cons h _ ih=>exact h.perm.trans (ih.cons _)
section
variable {C:Cx} {Q:kM} {fr:Fr} {cs:List bJ} {ops:Array Oper} {rest:List Oper} {x:Code} {α:Type} {bs:List Nat} {F:α→List bJ} {hb:∀a,bK (F a)=bs} {p:α→Prop} {r:List bJ}
theorem wl_open{l:List Oper}(hd:Del cs (exC bs F hb p) r)(h:∀a,p a→WL C ops Q l fr (F a++r)):WL C ops Q l fr cs:=fun a w hf hi=>by
 obtain⟨a',h1,h2⟩:=(hi.perm hd.perm).Kj
 exact h a' h1 a w hf h2
theorem y5{l:List Oper}(a:α)(hp:p a)(hs:ji (F a) cs r)(h:WL C ops Q l fr (exC bs F hb p::r)):WL C ops Q l fr cs:=fun A w hf hi=>h A w hf ((hi.perm hs.perm).J2 a hp)
end
theorem exC_ok{α:Type}{bs:List Nat}{F:α→List bJ}{hb:∀a,bK (F a)=bs}{p:α→Prop}{w:World}(h:(exC bs F hb p).ok w):∃a,p a∧∀c,Has (F a) c→c.ok w:=by
 obtain⟨a,h1,_,h3⟩:=h
 exact⟨a,h1,fun c hc=>h3 c hc.mem⟩
theorem ctr_E{P:Program}{f:FuncId}{args:List Value}{w:World}{α β:Type}{bs:List Nat}{F:α→List bJ}{hb:∀a,bK (F a)=bs}{p:α→Prop}{F':β→List bJ}{hb':∀a,bK (F' a)=bs}{p':β→Prop}{K:Value→Prop}
  (hi:Inv w (bK [exC bs F hb p]) [exC bs F hb p] w) (h:∀a,p a→Inv w (bK (F a)) (F a) w→Ctr P f args w (F a) (fun v cout=>K v∧∃a',p' a'∧cout=F' a')):Ctr P f args w [exC bs F hb p] (fun v cout=>K v∧cout=[exC bs F' hb' p']):=by
 obtain⟨a,h1,h2⟩:=hi.Kj
 have e:bK [exC bs F hb p]=bK (F a):=by rw[dV,ug,ax,hb a];rfl
 rw[ax,e]at h2
 refine Calls.mono (h a h1 h2) ?_
 rintro en w' ⟨v,cout,rfl,⟨hk,a',hp',rfl⟩,hi'⟩
 refine⟨v,_,rfl,⟨hk,rfl⟩,?_⟩
 rw[e]
 exact Inv.J2 (rest:=[]) a' hp' (by rw[ax];exact hi')
theorem bJ.old{w0 w:World}{cs:List bJ}{c:bJ}(h:c.ok w0)(hi:Inv w0 [] cs w):c.ok w:=c.loc w0 w (fun b hb=>hi.JJ.block b (c.lt w0 h b hb) cJ) h
theorem bJ.oldK{w0 w:World}{S:List Nat}{cs:List bJ}{c:bJ}(h:c.ok w0)(hi:Inv w0 S cs w)(hS:∀b,b∈c.bs→b∉S):c.ok w:=c.loc w0 w (fun b hb=>hi.JJ.block b (c.lt w0 h b hb) (hS b hb)) h
theorem cS{w0:World}{cs:List bJ}{bb o t:Nat}{xs:List Value}{v:Value}(h:(row bb xs t).ok w0)(hv:xs[o]? =some v):∀w,Inv w0 [] cs w→cells [(⟨bb,o,none⟩,v)] w:=fun w hi z hz=>by
 rw[aL]at hz
 subst hz
 have h1:w.heap[bb]? =some (.cells xs.toArray t (0,0)):=bJ.old h hi
 simp[World.cell?,h1,hv]
theorem oq{w0:World}{cs:List bJ}{bb o t:Nat}{xs vs:List Value}(h:(row bb xs t).ok w0)(hv:(xs.drop o).take vs.length=vs):∀w,Inv w0 [] cs w→cells (eJ ⟨bb,o,none⟩ 0 vs) w:=fun w hi z hz=>by
 obtain⟨j,h1,h2⟩:=gC hz
 rw[h2,Addr.add_lit]
 have h3:w.heap[bb]? =some (.cells xs.toArray t (0,0)):=bJ.old h hi
 have hj:j<vs.length:=(ar.1 h1).1
 have h4:xs[o+(0+j)]? =some z.2:=by
  rw[←h1,←hv,List.getElem?_take,if_pos hj,List.getElem?_drop]
  simp
 rw[bl]at h4⊢
 simp[World.cell?,h3,h4]
theorem gX{w:World}{e sz n c:Nat}{A:Option Addr}{xs:List Value}(h:(slv e sz A n c xs).ok w):RdV w sz A n c xs:=de h
section
variable {C:Cx} {fr:Fr} {cs:List bJ} {d:Option Tmp} {ty:TypeId} {pos:String} {af:Array Edge} {gd:Option (Nat×Bool)} {v:Value} {x y:Operand} {T T':TypeId} {mk:bJ→List bJ} {g:Bool} {V:World→Prop}
theorem eA{bb o t:Nat}{xs:List Value}(hT:∀w,(sizeOf T).run C.P w= .ok 1 w)(hx:ev fr x=some (.pointer (some ⟨bb,o,none⟩)))(hy:ev fr y=some v)(h1:v.oneCell'=true)(hu:At cs (row bb xs t) mk)(ho:o<xs.length):
  OpT C ⟨d,.store T x y,ty,pos,af,gd⟩ fr cs true (fun u cs'=>u=undef∧cs'=mk (row bb (xs.set o v) t)):=fun a w hf hi next Q h=>by
 have hc:=hi.cell hu.has o
 have hfz:=hi.free hu.has o
 have hcs:v.cells= #[v]:=by cases v<;>first|rfl|cases h1
 have hr:(execOp a.eval ⟨d,.store T x y,ty,pos,af,gd⟩).run C.P w= .ok .skip (w.setCell ⟨bb,o,none⟩ v):=by
  simp[execOp,hf.ev hx,hf.ev hy,Instr.storeAt,Instr.sureAddr,storeVar,hT,hcs,storeCells,Addr.add_lit,run_store _ _ _ v _ h1,hc,hfz,ho]
 unfold Oper.wp
 rw[hr]
 exact h _ _ _ ⟨rfl,rfl⟩ (hi.set o v (hu _)) (fun e=>by cases e)
theorem jJ{bb o t n:Nat}{xs vs:List Value}(hT:∀w,(sizeOf T).run C.P w= .ok n w)(hx:ev fr x=some (.pointer (some ⟨bb,o,none⟩)))(hy:ev fr y=some (.agg vs.toArray))(h1:∀u∈vs,u.oneCell'=true)(hu:At cs (row bb xs t) mk)(hn:vs.length=n)(ho:o+vs.length≤xs.length):
  OpT C ⟨d,.store T x y,ty,pos,af,gd⟩ fr cs true (fun u cs'=>u=undef∧cs'=mk (row bb (xs.take o++vs++xs.drop (o+vs.length)) t)):=fun a w hf hi next Q h=>by
 subst hn
 have hg:w.heap[bb]? =some (.cells xs.toArray t (0,0)):=hi.get hu.has
 have hst:=run_storeCells_at C.P bb o t vs 0 xs.toArray w hg (by simpa using ho) h1
 simp only[Nat.add_zero]at hst
 have hr:(execOp a.eval ⟨d,.store T x y,ty,pos,af,gd⟩).run C.P w= .ok .skip (w.setRow bb (xs.take o++vs++xs.drop (o+vs.length)).toArray):=by
  simp[execOp,hf.ev hx,hf.ev hy,Instr.storeAt,Instr.sureAddr,storeVar,hT,Value.cells,hst]
 have hsame:∀(k:Nat) (cur:Array Value),k≠bb→(w.setRow bb cur).heap[k]? =w.heap[k]? :=fun k cur hk=>by
  simp only[World.setRow,Array.getElem?_modify]
  rw[if_neg Wq1]
 have hsz:∀cur,(w.setRow bb cur).heap.size=w.heap.size:=fun cur=>by simp[World.setRow]
 unfold Oper.wp
 rw[hr]
 refine h _ _ _ ⟨rfl,rfl⟩ (hi.upd (hu _) ⟨rfl,rfl,rfl,by rw[hsz];exact aN _,fun k _ hk=>hsame k _ (by simpa[row,bJ.bs]using hk)⟩ ⟨⟨rfl,rfl,rfl,by rw[hsz];exact aN _,fun k _ hk=>hsame k _ (by simpa[row,bJ.bs]using hk)⟩,by simp[bK,row,bJ.bs],?_,?_⟩) (fun e=>by cases e)
 ·intro c hc
  simp only[aL]at hc
  subst hc
  show(w.setRow bb _).heap[bb]? =_
  simp[World.setRow,Array.getElem?_modify,hg]
 intro k hk
 left
 simpa[bK,row,bJ.bs]using hk
theorem yV{n e j:Nat}{i:Int}{k:IntKind}{vs:List Value}(hT:C.P.underlying T=some (.array n e))(he:∀w,(isAgg e).run C.P w= .ok false w)(hs:∀w,(sizeOf e).run C.P w= .ok 1 w)(hx:Ev fr g x (.agg vs.toArray))(hy:Ev fr g y (.int k i))(hi:g=true→i=(j:Int))(hj:g=true→j<n)(hv:g=true→vs[j]? =some v):
  OpY C ⟨d,.index T x y,ty,pos,af,gd⟩ fr g Any v:=fun A w hf _ hg=>by
 have h1:=hx.eval hf hg
 have h2:=hy.eval hf hg
 rw[hi hg]at h2
 have h3:=hj hg
 have h4:=hv hg
 have hr:(Instr.index T (.agg vs.toArray) (.int k (j:Int))).run C.P w= .ok v w:=by
  simp[Instr.index,asIntOf,run_underlying hT,h3,hs,part,he,h4]
 simp[execOp,h1,h2,hr]
theorem vH{k:IntKind}{a b:Int}(hx:Ev fr g x (.int k a))(hy:Ev fr g y (.int k b)){r:Int}(hr:(if b>a then b else a)=r):OpY C ⟨d,.call {callee:= .builtin .max,args:= #[x,y],argTypes:= #[T,T']},ty,pos,af,gd⟩ fr g Any (.int k r):=fun A w hf _ hg=>by
 subst hr
 simp[execOp,resolve,invoke,builtin,hx.eval hf hg,hy.eval hf hg,Builtin.max_,Builtin.max2]
theorem Cv{P:Program}{T:TypeId}{z:Value}(h:(P.info? T).bind (·.zero)=some z):∀w,(zeroValue T).run P w= .ok z w:=fun w=>by
 obtain⟨i,hi,hz⟩:=Option.bind_eq_some_iff.1 h
 simp[zeroValue,typeInfo,hi,hz]
theorem ix{vs:List Value}(hz:(C.P.info? T).bind (·.zero)=some (.agg vs.toArray))(hT:(∃fs,C.P.underlying T=some (.struct fs)∧fs.toList.all (fun f=>(C.P.info? f.type).isSome)=true)∨∃n e s,C.P.underlying T=some (.array n e)∧∀w,(sizeOf e).run C.P w= .ok s w):
  OpY C ⟨d,.build T #[],ty,pos,af,gd⟩ fr g Any (.agg vs.toArray):=by
 rcases hT with⟨fs,hT,hf⟩|⟨n,e,s,hT,hs⟩
 ·exact qF (ps:=[]) rfl hT (Cv hz) rfl hf rfl (.nil _)
 exact yW (ps:=[]) rfl hT (Cv hz) rfl hs rfl (.nil _)
theorem tp{bb o dLen dCap e n c sLen sCap:Nat}{A:Option Addr}{xs ys:List Value}(hx:ev fr x=some (.slice (some ⟨bb,o,none⟩) dLen dCap))(hy:ev fr y=some (.slice A sLen sCap))(hu:At cs (slv e 1 (some ⟨bb,0,none⟩) n c xs) mk)
  (ht:C.P.underlying T=some (.slice e)) (hs:(C.P.info? e).map (·.size)=some 1) (hr:∀w,Inv C.w0 C.S cs w→RdV w 1 A sLen sCap ys) (h1:∀u∈ys,u.oneCell'=true) (hfit:o+min sLen dLen≤n):
  OpT C ⟨d,.call {callee:= .builtin .copy,args:= #[x,y],argTypes:= #[T,T']},ty,pos,af,gd⟩ fr cs true (fun v cs'=>v= .int .i64 (min sLen dLen:Nat)∧cs'=mk (slv e 1 (some ⟨bb,0,none⟩) n c (xs.take o++ys.take (min sLen dLen)++xs.drop (o+min sLen dLen)))):=fun a w hf hi next Q h=>by
 have hrd:=hr w hi
 have hyl:=hrd.len
 have hown:w.ownsRow 0 e 1 (.slice (some ⟨bb,0,none⟩) n c) n xs:=hi.get hu.has
 have hxl:=hown.1
 obtain⟨hl0,h2⟩:=hown
 rcases h2 with⟨hv,_⟩|⟨g',cap,cur,hv,hg0,hh,hnc,hcm,hcs,htk⟩
 ·cases hv
 simp only[Value.slice.injEq,aR,Addr.mk.injEq,and_true,true_and]at hv
 obtain⟨rfl,rfl⟩:=hv
 simp only[Nat.mul_one]at hl0 htk hcs hyl
 obtain⟨m,hm⟩:∃m,m=min sLen dLen:=⟨_,rfl⟩
 have hm':Nat.min sLen dLen=m:=by rw[hm]
 rw[←hm]at hfit h
 have htl:(ys.take m).length=m:=by rw[aC];omega
 have hfinal:(cur.toList.take o++ys.take m++cur.toList.drop (o+(ys.take m).length)).take n=xs.take o++ys.take m++xs.drop (o+m):=by
  rw[htl,←htk]
  have hcl:cur.toList.length=c:=by simpa using hcs
  apply List.ext_getElem?
  intro j
  simp only[List.getElem?_take,List.getElem?_append,ae,aC,List.getElem?_drop,htl]
  have e1:min o cur.toList.length=o:=by omega
  have e2:min o (min n cur.toList.length)=o:=by omega
  rw[e1,e2]
  by_cases hjn:j<n
  ·by_cases hj1:j<o
   ·simp[hjn,hj1,show j<o+m by omega]
   by_cases hj2:j<o+m
   ·simp[hjn,hj1,hj2]
   simp only[hjn,hj2,if_true,if_false]
   rw[if_pos Wq1]
  have hj1:¬j<o+m:=by omega
  simp only[hjn,hj1,if_false]
  rw[if_neg Wq1]
 have key:∃w',(Builtin.copy_ #[T,T'] ty #[.slice (some ⟨bb,o,none⟩) dLen dCap,.slice A sLen sCap]).run C.P w= .ok (goInt m) w'∧dC [bb] w w'∧w'.ownsRow 0 e 1 (.slice (some ⟨bb,0,none⟩) n c) n (xs.take o++ys.take m++xs.drop (o+m)):=by
  by_cases hm0:m=0
  ·refine⟨w,?_,dC.refl _ _,?_⟩
   ·have:=run_copy_none (P:=C.P) w T T' ty e (some ⟨bb,o,none⟩) A dLen dCap sLen sCap ht hs (by rw[hm',hm0])
    rw[this,hm0];rfl
   rw[hm0]
   simp only[List.take_zero,ax,Nat.add_zero,List.take_append_drop]
   exact⟨by simpa using hl0,.inr ⟨bb,c,cur,rfl,hg0,hh,hnc,hcm,by simpa using hcs,by simpa using htk⟩⟩
  cases A with
  |none=>have:=(hrd.nil rfl).1;omega
  |some ad=>
   have hrow:=run_copy_row C.P w T T' ty e bb o dLen dCap ad sLen sCap cur e (ys.take m) ht hs hh (by rw[htl,hm']) (fun j v hj=>by
    rw[List.getElem?_take]at hj
    split at hj
    ·exact hrd.at_ ad rfl j v hj
    cases hj) (by rw[htl,hcs];omega) (fun v hv=>h1 v (List.mem_of_mem_take hv))
   rw[htl]at hrow
   rw[htl]at hfinal
   refine⟨_,hrow,⟨rfl,rfl,rfl,by simp[World.setRow],fun k _ hk=>?_⟩,?_⟩
   ·simp only[World.setRow,Array.getElem?_modify]
    rw[if_neg (by simp at hk;omega)]
   refine⟨?_,.inr ⟨bb,c,(cur.toList.take o++ys.take m++cur.toList.drop (o+m)).toArray,rfl,hg0,?_,hnc,hcm,?_,?_⟩⟩
   ·simp only[ae,aC,bn,hl0,Nat.mul_one];omega
   ·simp[World.setRow,Array.getElem?_modify,hh]
   ·have:cur.toList.length=c:=by simpa using hcs
    simp only[List.size_toArray,ae,aC,bn,this,Nat.mul_one];omega
   simpa using hfinal
 obtain⟨w',jo,hk,ho⟩:=key
 have hr':(execOp a.eval ⟨d,.call {callee:= .builtin .copy,args:= #[x,y],argTypes:= #[T,T']},ty,pos,af,gd⟩).run C.P w= .ok (.value (goInt m)) w':=by
  simp[execOp,resolve,invoke,builtin,hf.ev hx,hf.ev hy,jo]
 unfold Oper.wp
 rw[hr']
 refine h _ _ _ ⟨rfl,rfl⟩ (hi.upd (hu _) (by simpa[bJ.bs,ab]using hk) (jO (by simpa[bJ.bs,ab]using hk) ho fun a ha=>?_)) (fun e=>by cases e)
 obtain rfl:(⟨bb,0,none⟩:Addr)=a:=by simpa using ha
 left;simp[bJ.bs,ab]
theorem eB{f:FuncId}{l:List Operand}{vs:List Value}{ats:Array TypeId}{K:Value→List bJ→Prop}(cin:List bJ){rest:List bJ}(hl:evs fr l=some vs)(hc:∀args w,(callFunc f args).run C.P w= .ok (.enter f args) w)
  (hp:ji cin cs rest) (h:∀w,Inv C.w0 C.S cs w→Inv w (bK cin) cin w→Ctr C.P f vs w cin K):
  OpT C ⟨d,.call {callee:= .value (.func f),args:=l.toArray,argTypes:=ats},ty,pos,af,gd⟩ fr cs true (fun v cs'=>∃cout,K v cout∧cs'=cout++rest):=
 t_callN cin rest hl hc hp.perm fun w hi=>h w hi ⟨dC.refl _ _,by
  have:=((hp.perm.flatMap_right bJ.bs).nodup_iff).1 hi.nodup
  rw[show List.flatMap bJ.bs (cin++rest)=bK cin++bK rest from fO _ _]at this
  exact(List.nodup_append.1 this).1,fun c hc=>hi.ok c (hp.perm.mem_iff.2 (aS.2 (.inl hc))),fun b hb=> .inl hb⟩
end
section
variable {C:Cx} {fr:Fr} {cs cs':List bJ} {fn:Func} {K:Value→List bJ→Prop}
theorem nj{e:Exit}{t T bb tt u:Nat}{v:Value}{xs:List Value}(he:e= .ret∨e= .normal)(hs:cs'.Sublist cs)(h0:fn.results= #[.tmp u,.cell t T])(h2:look fr u=some v)(h1:look fr t=some (.pointer (some ⟨bb,0,none⟩)))(hc:Has cs (row bb xs tt))
  (hT:∀w,(isAgg T).run C.P w= .ok true w) (hz:∀w,(sizeOf T).run C.P w= .ok xs.length w) (hk:K (.tuple #[v,.agg xs.toArray]) cs'):QOk C (bodyPost C.P fn (xK C.w0 C.S K)) e fr cs:=
 lO he hs (fun a w hf hi=>by
  have e1:=hf.at_ t _ h1
  have e2:=hf.at_ u _ h2
  simp only[aX]at e1 e2
  simp[results,h0,e1,e2,asAddr,gt hT hz hi hc]) hk
theorem x6{e:Exit}{t T bb tt t2 T2 b2 tt2:Nat}{xs ys:List Value}(he:e= .ret∨e= .normal)(hs:cs'.Sublist cs)(h0:fn.results= #[.cell t T,.cell t2 T2])(h1:look fr t=some (.pointer (some ⟨bb,0,none⟩)))(h2:look fr t2=some (.pointer (some ⟨b2,0,none⟩)))(hc:Has cs (row bb xs tt))(hc2:Has cs (row b2 ys tt2))
  (hT:∀w,(isAgg T).run C.P w= .ok true w) (hz:∀w,(sizeOf T).run C.P w= .ok xs.length w) (hT2:∀w,(isAgg T2).run C.P w= .ok true w) (hz2:∀w,(sizeOf T2).run C.P w= .ok ys.length w) (hk:K (.tuple #[.agg xs.toArray,.agg ys.toArray]) cs'):QOk C (bodyPost C.P fn (xK C.w0 C.S K)) e fr cs:=
 lO he hs (fun a w hf hi=>by
  have e1:=hf.at_ t _ h1
  have e2:=hf.at_ t2 _ h2
  simp only[aX]at e1 e2
  simp[results,h0,e1,e2,asAddr,gt hT hz hi hc,gt hT2 hz2 hi hc2]) hk
theorem sK{e:Exit}{t u s:Nat}{v v' v2:Value}(he:e= .ret∨e= .normal)(hs:cs'.Sublist cs)(h0:fn.results= #[.tmp t,.tmp u,.tmp s])(h1:look fr t=some v)(h2:look fr u=some v')(h3:look fr s=some v2)(hk:K (.tuple #[v,v',v2]) cs'):QOk C (bodyPost C.P fn (xK C.w0 C.S K)) e fr cs:=
 lO he hs (fun a w hf _=>by
  have e1:=hf.at_ t _ h1
  have e2:=hf.at_ u _ h2
  have e3:=hf.at_ s _ h3
  simp only[aX]at e1 e2 e3
  simp[results,h0,e1,e2,e3]) hk
theorem ret4{e:Exit}{t u s r:Nat}{v v' v2 v3:Value}(he:e= .ret∨e= .normal)(hs:cs'.Sublist cs)(h0:fn.results= #[.tmp t,.tmp u,.tmp s,.tmp r])(h1:look fr t=some v)(h2:look fr u=some v')(h3:look fr s=some v2)(h4:look fr r=some v3)(hk:K (.tuple #[v,v',v2,v3]) cs'):QOk C (bodyPost C.P fn (xK C.w0 C.S K)) e fr cs:=
 lO he hs (fun a w hf _=>by
  have e1:=hf.at_ t _ h1
  have e2:=hf.at_ u _ h2
  have e3:=hf.at_ s _ h3
  have e4:=hf.at_ r _ h4
  simp only[aX]at e1 e2 e3 e4
  simp[results,h0,e1,e2,e3,e4]) hk
end
section
variable {C:Cx} {fr:Fr} {cs:List bJ} {d:Option Tmp} {ty:TypeId} {pos:String} {af:Array Edge} {gd:Option (Nat×Bool)} {v:Value} {x y:Operand} {T T':TypeId} {mk:bJ→List bJ} {g:Bool}
theorem De{e bytes i n c n2 c2 bb:Nat}{ad:Addr}{xs ys:List Value}(hx:ev fr x=some (.slice (some ⟨bb,0,none⟩) i c))(hin:i≤n)(hy:ev fr y=some (.slice (some ad) n2 c2))(hu:At cs (slv e 1 (some ⟨bb,0,none⟩) n c xs) mk)
  (ht:C.P.underlying T=some (.slice e)) (hel:Ah C.P e 1 bytes=true) (hr:∀w,Inv C.w0 C.S cs w→RdV w 1 (some ad) n2 c2 ys) (h1:∀u∈ys,u.oneCell'=true) (hroom:i+n2≤c):
  OpT C ⟨d,.call {callee:= .builtin .append,args:= #[x,y],argTypes:= #[T,T]},ty,pos,af,gd⟩ fr cs true (fun v cs'=>v= .slice (some ⟨bb,0,none⟩) (i+n2) c∧cs'=mk (slv e 1 (some ⟨bb,0,none⟩) (i+n2) c (xs.take i++ys))):=fun a w hf hi next Q h=>by
 obtain⟨inf,z,hi0,hz,hsize,hzs,rfl,hsz⟩:=sa hel
 have hrd:=hr w hi
 have hyl:=hrd.len
 have hown:w.ownsRow 0 e 1 (.slice (some ⟨bb,0,none⟩) n c) n xs:=hi.get hu.has
 obtain⟨hl0,h2⟩:=hown
 rcases h2 with⟨hv,_⟩|⟨g',cap,cur,hv,hg0,hh,hnc,hcm,hcs,htk⟩
 ·cases hv
 simp only[Value.slice.injEq,aR,Addr.mk.injEq,and_true,true_and]at hv
 obtain⟨rfl,rfl⟩:=hv
 simp only[Nat.mul_one]at hcs htk hyl hl0
 have jo:=run_append_room (P:=C.P) w T ty e inf ht hi0 bb i c cur hh ad n2 c2 ys (by rw[hsize,hyl,Nat.mul_one]) (hrd.at_ ad rfl) h1 hroom (by rw[hsize,hcs,hyl];omega)
 rw[hsize,Nat.mul_one,hyl]at jo
 have hcl:cur.toList.length=c:=by simpa using hcs
 have hk:dC [bb] w (w.setRow bb (cur.toList.take i++ys++cur.toList.drop (i+n2)).toArray):=⟨rfl,rfl,rfl,by simp[World.setRow],fun j _ hj=>by
  simp only[World.setRow,Array.getElem?_modify]
  rw[if_neg (by simp at hj;omega)]⟩
 have ho:(w.setRow bb (cur.toList.take i++ys++cur.toList.drop (i+n2)).toArray).ownsRow 0 e 1 (.slice (some ⟨bb,0,none⟩) (i+n2) c) (i+n2) (xs.take i++ys):=by
  refine⟨by simp only[ae,aC,hyl,hl0];omega,.inr ⟨bb,c,(cur.toList.take i++ys++cur.toList.drop (i+n2)).toArray,rfl,hg0,by simp[World.setRow,Array.getElem?_modify,hh],hroom,hcm,?_,?_⟩⟩
  ·simp only[List.size_toArray,ae,aC,bn,hcl,hyl,Nat.mul_one];omega
  rw[Nat.mul_one]
  have e1:(cur.toList.take i++ys).length=i+n2:=by simp only[ae,aC,hyl,hcl];omega
  show(cur.toList.take i++ys++cur.toList.drop (i+n2)).take (i+n2)=xs.take i++ys
  rw[←e1,List.take_left,←htk,List.take_take,Nat.min_eq_left hin]
 have hr':(execOp a.eval ⟨d,.call {callee:= .builtin .append,args:= #[x,y],argTypes:= #[T,T]},ty,pos,af,gd⟩).run C.P w= .ok (.value (.slice (some ⟨bb,0,none⟩) (i+n2) c)) (w.setRow bb (cur.toList.take i++ys++cur.toList.drop (i+n2)).toArray):=by
  simp[execOp,resolve,invoke,builtin,hf.ev hx,hf.ev hy,jo]
 unfold Oper.wp
 rw[hr']
 refine h _ _ _ ⟨rfl,rfl⟩ (hi.upd (hu _) (by simpa[bJ.bs,ab]using hk) (jO (by simpa[bJ.bs,ab]using hk) ho fun a ha=>?_)) (fun e=>by cases e)
 obtain rfl:(⟨bb,0,none⟩:Addr)=a:=by simpa using ha
 left;simp[bJ.bs,ab]
theorem ur(z:Value)(k:Nat):(Builtin.zeroCells #[z] k).toList=List.replicate k z:=by
 apply List.ext_getElem
 ·simp[Builtin.zeroCells]
 intro i h1 h2
 simp[Builtin.zeroCells,Nat.mod_one]
theorem t_clear{bb o k cc e n c:Nat}{xs:List Value}{z:Value}(hx:ev fr x=some (.slice (some ⟨bb,o,none⟩) k cc))(hu:At cs (slv e 1 (some ⟨bb,0,none⟩) n c xs) mk)(ht:C.P.underlying T=some (.slice e))(hz:∀w,(zeroValue e).run C.P w= .ok z w)(hz1:z.cells= #[z])(hz2:z.oneCell'=true)(hno:n≤o)(hoc:o+k≤c):
  OpT C ⟨d,.call {callee:= .builtin .clear,args:= #[x],argTypes:= #[T]},ty,pos,af,gd⟩ fr cs true (fun v cs'=>v= .tuple #[]∧cs'=mk (slv e 1 (some ⟨bb,0,none⟩) n c xs)):=fun a w hf hi next Q h=>by
 have hown:w.ownsRow 0 e 1 (.slice (some ⟨bb,0,none⟩) n c) n xs:=hi.get hu.has
 obtain⟨hl0,h2⟩:=hown
 rcases h2 with⟨hv,_⟩|⟨g',cap,cur,hv,hg0,hh,hnc,hcm,hcs,htk⟩
 ·cases hv
 simp only[Value.slice.injEq,aR,Addr.mk.injEq,and_true,true_and]at hv
 obtain⟨rfl,rfl⟩:=hv
 simp only[Nat.mul_one]at hcs htk
 have hst:=run_storeCells_at C.P bb o e (List.replicate k z) 0 cur w hh (by rw[aJ,hcs];omega) (fun u hu=>by rw[List.eq_of_mem_replicate hu];exact hz2)
 simp only[Nat.add_zero,aJ]at hst
 have hcl:cur.toList.length=c:=by simpa using hcs
 have key:∃w',(Builtin.clear_ #[T] ty #[.slice (some ⟨bb,o,none⟩) k cc]).run C.P w= .ok (.tuple #[]) w'∧dC [bb] w w'∧w'.ownsRow 0 e 1 (.slice (some ⟨bb,0,none⟩) n c) n xs:=by
  cases k with
  |zero=>
   refine⟨w,by simp[Builtin.clear_,run_underlying ht],dC.refl _ _,⟨hl0,.inr ⟨bb,c,cur,rfl,hg0,hh,hnc,hcm,by simpa using hcs,by simpa using htk⟩⟩⟩
  |succ k=>
   refine⟨w.setRow bb (cur.toList.take o++List.replicate (k+1) z++cur.toList.drop (o+(k+1))).toArray,?_,⟨rfl,rfl,rfl,by simp[World.setRow],fun j _ hj=>?_⟩,⟨hl0,.inr ⟨bb,c,(cur.toList.take o++List.replicate (k+1) z++cur.toList.drop (o+(k+1))).toArray,rfl,hg0,?_,hnc,hcm,?_,?_⟩⟩⟩
   ·simp[Builtin.clear_,run_underlying ht,hz,hz1,ur,hst]
   ·simp only[World.setRow,Array.getElem?_modify]
    rw[if_neg (by simp at hj;omega)]
   ·simp[World.setRow,Array.getElem?_modify,hh]
   ·simp only[List.size_toArray,ae,aC,aJ,bn,hcl,Nat.mul_one];omega
   rw[Nat.mul_one,←htk]
   simp only[ap]
   rw[List.take_append_of_le_length (by rw[aC,hcl];omega),List.take_take,Nat.min_eq_left hno]
 obtain⟨w',jo,hk,ho⟩:=key
 have hr':(execOp a.eval ⟨d,.call {callee:= .builtin .clear,args:= #[x],argTypes:= #[T]},ty,pos,af,gd⟩).run C.P w= .ok (.value (.tuple #[])) w':=by
  simp[execOp,resolve,invoke,builtin,hf.ev hx,jo]
 unfold Oper.wp
 rw[hr']
 refine h _ _ _ ⟨rfl,rfl⟩ (hi.upd (hu _) (by simpa[bJ.bs,ab]using hk) (jO (by simpa[bJ.bs,ab]using hk) ho fun a ha=>?_)) (fun e=>by cases e)
 obtain rfl:(⟨bb,0,none⟩:Addr)=a:=by simpa using ha
 left;simp[bJ.bs,ab]
theorem kO{bb o n c lo hi r sz:Nat}{e:TypeId}{lo? hi? :Option Operand}(hT:C.P.underlying T=some (.slice e))(hs:∀w,(sizeOf e).run C.P w= .ok sz w)(hx:Ev fr g x (.slice (some ⟨bb,o,none⟩) n c))
  (hlo:(lo? =none∧lo=0)∨∃l k,lo? =some l∧Ev fr g l (.int k (lo:Int))) (hhi:(hi? =none∧hi=n)∨∃l k,hi? =some l∧Ev fr g l (.int k (hi:Int))) (h1:lo≤hi) (h2:hi≤c) (h3:lo<c) (hr:o+lo*sz=r):
  OpY C ⟨d,.slice T x lo? hi? none,ty,pos,af,gd⟩ fr g Any (.slice (some ⟨bb,r,none⟩) (hi - lo) (c - lo)):=by
 subst hr
 have h:=uw (C:=C) (d:=d) (ty:=ty) (pos:=pos) (af:=af) (gd:=gd) (T:=T) (fr:=fr) (g:=g) hT hs hx hlo hhi h1 h2
 rw[if_neg Wq1,Option.map_some,Addr.add_lit]at h
 exact h
theorem FV{A:Option Addr}{n c lo hi sz:Nat}{r:Addr}{e:TypeId}{lo? hi? :Option Operand}(hT:C.P.underlying T=some (.slice e))(hs:∀w,(sizeOf e).run C.P w= .ok sz w)(hx:Ev fr g x (.slice A n c))
  (hlo:(lo? =none∧lo=0)∨∃l k,lo? =some l∧Ev fr g l (.int k (lo:Int))) (hhi:(hi? =none∧hi=n)∨∃l k,hi? =some l∧Ev fr g l (.int k (hi:Int))) (h1:lo≤hi) (h2:hi≤c) (hr:(some r:Option Addr)=(if c=lo then A else A.map (·.add (lo*sz)))):
  OpY C ⟨d,.slice T x lo? hi? none,ty,pos,af,gd⟩ fr g Any (.slice (some r) (hi - lo) (c - lo)):=by
 rw[hr]
 exact uw hT hs hx hlo hhi h1 h2
theorem FW{A:Option Addr}{n c lo hi mx:Nat}{e:TypeId}{sz:Nat}{l h m:Operand}{k k' k2:IntKind}(hT:C.P.underlying T=some (.slice e))(hs:∀w,(sizeOf e).run C.P w= .ok sz w)(hx:Ev fr g x (.slice A n c))
  (hlo:Ev fr g l (.int k (lo:Int))) (hhi:Ev fr g h (.int k' (hi:Int))) (hmx:Ev fr g m (.int k2 (mx:Int))) (h1:lo≤hi) (h2:hi≤mx) (h3:mx≤c):
  OpY C ⟨d,.slice T x (some l) (some h) (some m),ty,pos,af,gd⟩ fr g Any (.slice (if mx=lo then A else A.map (·.add (lo*sz))) (hi - lo) (mx - lo)):=fun a w hf _ hg=>by
 have e1:=hlo.eval hf hg
 have e2:=hhi.eval hf hg
 have e3:=hmx.eval hf hg
 have hb:(Instr.sliceBounds true n c (some (.int k (lo:Int))) (some (.int k' (hi:Int))) (some (.int k2 (mx:Int)))).run C.P w= .ok (lo,hi,mx) w:=by
  simp[Instr.sliceBounds,Instr.sliceBound,asIntOf,h1,h2,h3]
 simp[execOp,hx.eval hf hg,e1,e2,e3,Instr.sliceAt,run_underlying hT,Instr.slice,hb,hs]
end
section
variable {C:Cx} {Q:kM} {fr:Fr} {cs:List bJ}
theorem j6{e:Exit}{c c':bJ}{mk:bJ→List bJ}(hu:At cs c mk)(hb:c'.bs=c.bs)(hok:∀w,c.ok w→c'.ok w)(h:QOk C Q e fr (mk c')):QOk C Q e fr cs:=
 fun a w hf hi=>h a w hf (hi.conv hu hb (hok w))
theorem zj{w:World}{k:IntKind}{e c:Nat}{A:Option Addr}{xs:List Int}{x:Int}(h:(sl k e A (xs++[x]).length c (xs++[x])).ok w):(sl k e A xs.length c xs).ok w:=by
 have:=sl_cut (m:=xs.length) h
 rwa[List.take_left]at this
theorem eG{d:Option Tmp}{ty:TypeId}{pos:String}{af:Array Edge}{gd:Option (Nat×Bool)}{x y:Operand}{T:TypeId}{mk:bJ→List bJ}{bb o t n:Nat}{xs vs ys:List Value}(he:ys=xs.take o++vs++xs.drop (o+vs.length))(hT:∀w,(sizeOf T).run C.P w= .ok n w)(hx:ev fr x=some (.pointer (some ⟨bb,o,none⟩)))(hy:ev fr y=some (.agg vs.toArray))(h1:∀u∈vs,u.oneCell'=true)(hu:At cs (row bb xs t) mk)(hn:vs.length=n)(ho:o+vs.length≤xs.length):
  OpT C ⟨d,.store T x y,ty,pos,af,gd⟩ fr cs true (fun u cs'=>u=undef∧cs'=mk (row bb ys t)):=by
 subst he
 exact jJ hT hx hy h1 hu hn ho
theorem Inv.J8{w0 w w':World}{S:List Nat}{cin rest:List bJ}{e sz n cc:Nat}{A:Option Addr}{xs:List Value}(h:Inv w0 S cs w)(hp:ji cin cs rest)(h2:Has rest (slv e sz A n cc xs))(hk:dC (bK cin) w w'):RdV w' sz A n cc xs:=by
 have hc:=h.ok _ (hp.perm.symm.subset (List.mem_append_right _ h2.mem))
 refine de ((slv e sz A n cc xs).loc w w' (fun b hb=>hk.block b ((slv e sz A n cc xs).lt w hc b hb) fun hin=>?_) hc)
 have hn:=((hp.perm.flatMap_right bJ.bs).nodup_iff).1 h.nodup
 rw[List.flatMap_append]at hn
 exact(List.nodup_append.1 hn).2.2 b hin b (dc.2 ⟨_,h2.mem,hb⟩) rfl
end
theorem qm(l:List Int)(x:Int):(l++[x])[l.length]? =some x:=by simp
theorem qS{l:List Int}(h:0<l.length):∃m x,l=m++[x]:=⟨l.dropLast,l.getLast (by intro h';subst h';cases h),(List.dropLast_concat_getLast _).symm⟩
theorem RdV.JG{cs:List bJ}{w0 w w':World}{cin rest:List bJ}{sz n cc:Nat}{A:Option Addr}{xs:List Value}(h:RdV w0 sz A n cc xs)(hi:Inv w0 [] cs w)(hp:ji cin cs rest)(hk:dC (bK cin) w w'):RdV w' sz A n cc xs:=
 ⟨h.len,h.cap,h.max,h.nil,fun ad e j u hu=>by
  have h1:=h.at_ ad e j u hu
  have hlt:=World.block_lt_of_cell? w0 _ h1
  refine(World.cell?_of_block ((hk.block _ (Nat.lt_of_lt_of_le hlt hi.JJ.size) fun hin=>?_).trans (hi.JJ.block _ hlt cJ))).trans h1
  obtain⟨c,hc,hb⟩:=dc.1 hin
  have hc':=hp.perm.symm.subset (List.mem_append_left _ hc)
  rcases hi.own _ (dc.2 ⟨c,hc',hb⟩)with h2|h2
  ·cases h2
  omega⟩
section
variable {C:Cx} {Q:kM} {fr:Fr} {cs:List bJ} {ops:Array Oper} {rest:List Oper} {d:Nat} {op:Op} {ty T:TypeId} {pos:String} {af:Array Edge} {v:Value} {g b:Bool} {x y:Code} {id:Nat} {K:Act→World→Prop} {o:Operand}
theorem Zu{a b:List bJ}(h:a.Sublist b:=by(repeat (first|exact List.Sublist.slnil|refine List.Sublist.cons_cons _ ?_|refine List.Sublist.cons _ ?_))):a.Sublist b:=h
theorem Zh{c:bJ}(h:Has cs c:=by repeat (first|exact Has.head _ _|apply Has.tail)):Has cs c:=h
theorem Zk{α:Type}{a b:α}(h:a=b:=by kernel_rfl):a=b:=h
theorem Zf{a b:Nat}(h:a=b:=by first|exact bl _|exact rfl):a=b:=h
theorem Za{c:bJ}{mk:bJ→List bJ}(h:At cs c mk:=by repeat (first|exact aH|apply aT)):At cs c mk:=h
theorem Zp{a c:List Value}{n:Nat}{e:Value}(h:nB a n e c:=by(repeat (first|exact nB.zero _ _ _|apply nB.succ))):nB a n e c:=h
theorem Zb{a c:List Value}{l:List (Nat×Value)}(h:fj a l c:=by(repeat (first|exact fj.nil _|(apply fj.cons;(repeat (first|exact nB.zero _ _ _|apply nB.succ)))))):fj a l c:=h
theorem Zd{c:bJ}{a:List bJ}(h:Del cs c a:=by repeat (first|exact Del.head _ _|apply Del.tail)):Del cs c a:=h
theorem Zj{a c:List bJ}(h:xD a c:=by repeat (first|exact xD.nil _|(refine xD.cons (by repeat (first|exact Del.head _ _|apply Del.tail)) ?_))):xD a c:=h
theorem Zi{a c e:List bJ}(h:ji a c e:=by repeat (first|exact ji.nil _|(apply ji.cons;(repeat (first|exact Del.head _ _|apply Del.tail))))):ji a c e:=h
theorem Zl{a b:Int}(h:a=b:=by first|exact IntWalk.i64_in _ ⟨by omega,by omega⟩|exact rfl):a=b:=h
theorem Zs(h:WC C x (Exit.then (y.wp C.P Q) Q) fr cs):WC C (.seq x y) Q fr cs:=wc_seq h
theorem Zr{l:List Oper}(h:WL C l.toArray Q l fr cs):WC C (.region id l.toArray false) Q fr cs:=CG h
theorem Zt(h:WC C y Q fr cs):QOk C (Exit.then (y.wp C.P Q) Q) .normal fr cs:=h
theorem Zn(h:QOk C Q .normal fr cs):WL C ops Q [] fr cs:=h
theorem Zc(h:QOk C Q .normal fr cs):WC C .skip Q fr cs:=wc_skip h
theorem Ze(h:QOk C Q .ret fr cs):WC C .ret Q fr cs:=wc_ret h
theorem Zw(h:QOk C Q .ret fr cs):QOk C (Exit.then K Q) .ret fr cs:=h
theorem Zo(h:QOk C Q .normal fr cs):QOk C (Exit.inBlock id Q) .normal fr cs:=h
theorem Zq(h:QOk C Q .ret fr cs):QOk C (Exit.inBlock id Q) .ret fr cs:=h
theorem Zx(h:WC C x (Exit.inBlock id Q) fr cs):WC C (.block id x) Q fr cs:=F3 h
theorem Zv{x:Operand}{u:Value}(h:ev fr x=some u):Ev fr g x u:=pY h
theorem Zy(hy:OpY C ⟨some d,op,ty,pos,af,none⟩ fr true Any v)(h:WL C ops Q rest ((d,v)::fr) cs)(hd:Nat.blt d C.N=true:=by exact rfl):WL C ops Q (⟨some d,op,ty,pos,af,none⟩::rest) fr cs:=dL hy (fun _ _=>trivial) hd h
theorem Zyy{j e:Nat}(h1:(ops[j]?).bind (·.dst)=some e)(h2:look fr e=some (.bool b))(hy:OpY C ⟨some d,op,ty,pos,af,some (j,true)⟩ fr b Any v)(h:WL C ops Q rest ((d,bif b then v else undef)::fr) cs)(hd:Nat.blt d C.N=true:=by exact rfl):
  WL C ops Q (⟨some d,op,ty,pos,af,some (j,true)⟩::rest) fr cs:=hH (bZ h1 h2) hy (fun _ _=>trivial) hd h
theorem Zyn{j e:Nat}(h1:(ops[j]?).bind (·.dst)=some e)(h2:look fr e=some (.bool b))(hy:OpY C ⟨some d,op,ty,pos,af,some (j,false)⟩ fr (!b) Any v)(h:WL C ops Q rest ((d,bif !b then v else undef)::fr) cs)(hd:Nat.blt d C.N=true:=by exact rfl):
  WL C ops Q (⟨some d,op,ty,pos,af,some (j,false)⟩::rest) fr cs:=hH (cq h1 h2) hy (fun _ _=>trivial) hd h
end
section
variable {C:Cx} {Q:kM} {fr:Fr} {cs:List bJ} {ops:Array Oper} {rest:List Oper} {d:Nat} {op:Op} {ty T f:TypeId} {pos:String} {af:Array Edge} {j:Nat×Bool} {gd:Option (Nat×Bool)} {dd:Option Nat} {V:World→Prop} {v:Value} {g p q:Bool} {x y:Operand} {St:Dr} {fuel:Nat} {listed:Array Bool} {bb r t i:Nat} {xs xs':List Value} {mk:bJ→List bJ}
theorem Zev(h:Ev fr g x v:=by first|exact dH rfl|exact pY rfl):Ev fr g x v:=h
theorem Zpa(h:∃u,ev fr y=some u∧(g=true→p=true→u= .bool q):=by first|exact pk_yes rfl (fun _=>rfl)|exact⟨_,rfl,fun _ _=>rfl⟩|exact pk_gyes rfl (fun _ _=>rfl)|exact⟨_,rfl,fun e _=>by rw[e];rfl⟩):∃u,ev fr y=some u∧(g=true→p=true→u= .bool q):=h
theorem Zpo(h:∃u,ev fr y=some u∧(g=true→p=false→u= .bool q):=by first|exact pk_no rfl (fun _=>rfl)|exact⟨_,rfl,fun _ _=>rfl⟩|exact pk_gno rfl (fun _ _=>rfl)|exact⟨_,rfl,fun e _=>by rw[e];rfl⟩):∃u,ev fr y=some u∧(g=true→p=false→u= .bool q):=h
theorem Zya(h:OpY C ⟨dd,op,ty,pos,af,gd⟩ fr g Any v:=by first
 |(apply fP;exact Zev)
 |(apply fm;exact Zev)
 |(apply CA;exact Zev;exact Zev;exact rfl)
 |(apply AO;exact Zev)
 |(apply CC;exact Zev;exact Zpa)
 |(apply y_or;exact Zev;exact Zpo)
 |(apply fX;exact Zev;repeat (first|exact .zero _ _|apply Nth.succ))
 |(apply y_not;exact Zev;exact rfl)
 |(apply y_neq;exact Zev;exact Zev;exact rfl)
 |(apply y_len;exact⟨_,rfl⟩;exact Zev)
 |(apply y_lss;exact Zev;exact Zev;exact rfl)
 |(apply y_geq;exact Zev;exact Zev;exact rfl)
 |(apply y_leq;exact Zev;exact Zev;exact rfl)
 |(apply y_gtr;exact Zev;exact Zev;exact rfl)
 |(apply y_pnil;exact rfl;exact Zev)
 |(apply y_pnn;exact rfl;exact Zev)
 |(apply y_slnil;exact rfl;exact Zev)
 |(apply y_eqlb;exact rfl;exact Zev;exact Zev;exact rfl)
 |(apply y_neqb;exact rfl;exact Zev;exact Zev;exact rfl)
 |(apply AN;exact Zev;exact Zev;exact rfl)
 |(apply nG;exact Zev;exact Zev;exact rfl)
 |(apply y_xor_;exact Zev;exact Zev;exact rfl)
 |exact qF rfl rfl (fun _=>rfl) rfl rfl rfl Zb
 |exact yW rfl rfl (fun _=>rfl) rfl (fun _=>rfl) rfl Zb):OpY C ⟨dd,op,ty,pos,af,gd⟩ fr g Any v:=h
theorem Zgd{o:Oper}(h:bP ops fr o g:=by first|exact bZ rfl rfl|exact cq rfl rfl|exact dU rfl rfl):bP ops fr o g:=h
theorem Zwk{fr':Fr}(h:Wk fr' fr:=by((repeat' (refine Wk.cons ?_ ?_))<;>first|exact Wk.nil|exact rfl|exact trivial|exact IJ rfl (by omega)|exact IJ rfl (by simp))):Wk fr' fr:=h
theorem ZA(h:WL C ops Q rest ((d,v)::fr) cs)(hy:OpY C ⟨some d,op,ty,pos,af,none⟩ fr true Any v:=by exact Zya)(hd:Nat.blt d C.N=true:=by exact rfl):WL C ops Q (⟨some d,op,ty,pos,af,none⟩::rest) fr cs:=dL hy (fun _ _=>trivial) hd h
theorem ZB(h:WL C ops Q rest ((d,bif g then v else undef)::fr) cs)(hg:bP ops fr ⟨some d,op,ty,pos,af,some j⟩ g:=by exact Zgd)(hy:OpY C ⟨some d,op,ty,pos,af,some j⟩ fr g Any v:=by exact Zya)(hd:Nat.blt d C.N=true:=by exact rfl):
  WL C ops Q (⟨some d,op,ty,pos,af,some j⟩::rest) fr cs:=hH hg hy (fun _ _=>trivial) hd h
theorem ZC(h:WL C ops Q rest ((d,v)::fr) cs)(hx:Ev fr true x (.pointer (some ⟨bb,r,none⟩)):=by exact Zev)(hT:∀w,(isAgg T).run C.P w= .ok false w:=by exact fun _=>rfl)(hc:Has cs (row bb xs t):=by exact Zh)(hv:xs[r]? =some v:=by exact rfl)(hd:Nat.blt d C.N=true:=by exact rfl):
  WL C ops Q (⟨some d,.load T x,ty,pos,af,none⟩::rest) fr cs:=dL (bO hT hx) (cB hc hv) hd h
theorem ZD(h:WL C ops Q rest ((d,bif g then v else undef)::fr) cs)(hg:bP ops fr ⟨some d,.load T x,ty,pos,af,some j⟩ g:=by exact Zgd)(hx:Ev fr g x (.pointer (some ⟨bb,r,none⟩)):=by exact Zev)(hT:∀w,(isAgg T).run C.P w= .ok false w:=by exact fun _=>rfl)(hc:Has cs (row bb xs t):=by exact Zh)(hv:xs[r]? =some v:=by exact rfl)(hd:Nat.blt d C.N=true:=by exact rfl):
  WL C ops Q (⟨some d,.load T x,ty,pos,af,some j⟩::rest) fr cs:=hH hg (bO hT hx) (cB hc hv) hd h
theorem ZE(i:Nat)(h:WA C St ops Q fuel (listed.setIfInBounds i true) ((d,v)::fr) cs)(hi:ops[i]? =some ⟨some d,op,ty,pos,af,none⟩:=by exact rfl)(hy:OpY C ⟨some d,op,ty,pos,af,none⟩ fr true Any v:=by exact Zya)(hs:Region.noSelect ops=true:=by kernel_rfl)(hfree:Region.free .any ops listed i=true:=by kernel_rfl)(hr:(Region.ready .any ops listed).contains i=true:=by kernel_rfl)(hd:Nat.blt d C.N=true:=by exact rfl):
  WA C St ops Q (fuel+1) listed fr cs:=cD i hi hs hfree hr hy hd h
theorem ZF(i:Nat)(h:WA C St ops Q fuel (listed.setIfInBounds i true) ((d,bif g then v else undef)::fr) cs)(hi:ops[i]? =some ⟨some d,op,ty,pos,af,some j⟩:=by exact rfl)(hg:bP ops fr ⟨some d,op,ty,pos,af,some j⟩ g:=by exact Zgd)(hy:OpY C ⟨some d,op,ty,pos,af,some j⟩ fr g Any v:=by exact Zya)(hs:Region.noSelect ops=true:=by kernel_rfl)(hfree:Region.free .any ops listed i=true:=by kernel_rfl)(hr:(Region.ready .any ops listed).contains i=true:=by kernel_rfl)(hd:Nat.blt d C.N=true:=by exact rfl):
  WA C St ops Q (fuel+1) listed fr cs:=wa_y i hi hs hfree hr hg hy hd h
theorem ZFa(n:Nat){o k:Nat}(h:WL C ops Q rest ((d,.pointer (some ⟨bb,r,none⟩))::fr) cs)(ho:gY C.P T k=some n:=by exact rfl)(hx:Ev fr true x (.pointer (some ⟨bb,o,none⟩)):=by exact Zev)(hr:o+n=r:=by exact Zf)(hd:Nat.blt d C.N=true:=by exact rfl):
  WL C ops Q (⟨some d,.fieldAddr T x k,ty,pos,af,none⟩::rest) fr cs:=dL (dN n ho hx hr) (fun _ _=>trivial) hd h
theorem ZFb(n:Nat){o k:Nat}(h:WL C ops Q rest ((d,bif g then .pointer (some ⟨bb,r,none⟩)else undef)::fr) cs)(hg:bP ops fr ⟨some d,.fieldAddr T x k,ty,pos,af,some j⟩ g:=by exact Zgd)(ho:gY C.P T k=some n:=by exact rfl)(hx:Ev fr g x (.pointer (some ⟨bb,o,none⟩)):=by exact Zev)(hr:o+n=r:=by exact Zf)(hd:Nat.blt d C.N=true:=by exact rfl):
  WL C ops Q (⟨some d,.fieldAddr T x k,ty,pos,af,some j⟩::rest) fr cs:=hH hg (dN n ho hx hr) (fun _ _=>trivial) hd h
theorem ZFe(i n:Nat){o k:Nat}(h:WA C St ops Q fuel (listed.setIfInBounds i true) ((d,.pointer (some ⟨bb,r,none⟩))::fr) cs)(hi:ops[i]? =some ⟨some d,.fieldAddr T x k,ty,pos,af,none⟩:=by exact rfl)(ho:gY C.P T k=some n:=by exact rfl)(hx:Ev fr true x (.pointer (some ⟨bb,o,none⟩)):=by exact Zev)(hr':o+n=r:=by exact Zf)(hs:Region.noSelect ops=true:=by kernel_rfl)(hfree:Region.free .any ops listed i=true:=by kernel_rfl)(hr:(Region.ready .any ops listed).contains i=true:=by kernel_rfl)(hd:Nat.blt d C.N=true:=by exact rfl):
  WA C St ops Q (fuel+1) listed fr cs:=cD i hi hs hfree hr (dN n ho hx hr') hd h
theorem ZFf(i n:Nat){o k:Nat}(h:WA C St ops Q fuel (listed.setIfInBounds i true) ((d,bif g then .pointer (some ⟨bb,r,none⟩)else undef)::fr) cs)(hi:ops[i]? =some ⟨some d,.fieldAddr T x k,ty,pos,af,some j⟩:=by exact rfl)(hg:bP ops fr ⟨some d,.fieldAddr T x k,ty,pos,af,some j⟩ g:=by exact Zgd)(ho:gY C.P T k=some n:=by exact rfl)(hx:Ev fr g x (.pointer (some ⟨bb,o,none⟩)):=by exact Zev)(hr':o+n=r:=by exact Zf)(hs:Region.noSelect ops=true:=by kernel_rfl)(hfree:Region.free .any ops listed i=true:=by kernel_rfl)(hr:(Region.ready .any ops listed).contains i=true:=by kernel_rfl)(hd:Nat.blt d C.N=true:=by exact rfl):
  WA C St ops Q (fuel+1) listed fr cs:=wa_y i hi hs hfree hr hg (dN n ho hx hr') hd h
theorem ZG(i:Nat)(h:WA C St ops Q fuel (listed.setIfInBounds i true) ((d,v)::fr) cs)(hi:ops[i]? =some ⟨some d,.load T x,ty,pos,af,none⟩:=by exact rfl)(hx:Ev fr true x (.pointer (some ⟨bb,r,none⟩)):=by exact Zev)(hT:∀w,(isAgg T).run C.P w= .ok false w:=by exact fun _=>rfl)(hc:Has cs (row bb xs t):=by exact Zh)(hv:xs[r]? =some v:=by exact rfl)
  (hs:Region.noSelect ops=true:=by kernel_rfl) (hfree:Region.free .any ops listed i=true:=by kernel_rfl) (hst:pP .any ops St.st listed i=true:=by kernel_rfl) (hr:(Region.ready .any ops listed).contains i=true:=by kernel_rfl) (hd:Nat.blt d C.N=true:=by exact rfl):WA C St ops Q (fuel+1) listed fr cs:=dm i hi hs hfree hst hr (bO hT hx) (cB hc hv) hd h
theorem ZI(i:Nat)(h:WA C St ops Q fuel (listed.setIfInBounds i true) ((d,.agg xs.toArray)::fr) cs)(hi:ops[i]? =some ⟨some d,.load T x,ty,pos,af,none⟩:=by exact rfl)(hx:Ev fr true x (.pointer (some ⟨bb,0,none⟩)):=by exact Zev)(hT:∀w,(isAgg T).run C.P w= .ok true w:=by exact fun _=>rfl)(hc:Has cs (row bb xs t):=by exact Zh)(hz:∀w,(sizeOf T).run C.P w= .ok xs.length w:=by exact fun _=>rfl)
  (hs:Region.noSelect ops=true:=by kernel_rfl) (hfree:Region.free .any ops listed i=true:=by kernel_rfl) (hst:pP .any ops St.st listed i=true:=by kernel_rfl) (hr:(Region.ready .any ops listed).contains i=true:=by kernel_rfl) (hd:Nat.blt d C.N=true:=by exact rfl):WA C St ops Q (fuel+1) listed fr cs:=AY i hi hs hfree hst hr hc hT hz hx hd h
theorem ZL(h:WL C ops Q rest fr (mk (row bb xs' t)))(hT:∀w,(sizeOf T).run C.P w= .ok 1 w:=by exact fun _=>rfl)(hx:ev fr x=some (.pointer (some ⟨bb,r,none⟩)):=by exact rfl)(hy:ev fr y=some v:=by exact rfl)(h1:v.oneCell'=true:=by exact rfl)(hu:At cs (row bb xs t) mk:=by exact Za)(hs:nB xs r v xs':=by exact Zp):
  WL C ops Q (⟨none,.store T x y,ty,pos,af,none⟩::rest) fr cs:=dD (fc hT hx hy h1 hu hs) (by rintro _ _ ⟨rfl,rfl⟩;exact h)
theorem ZM(h:WL C ops Q rest fr (mk (row bb xs' t)))(hx:ev fr x=some (.pointer (some ⟨bb,0,none⟩)):=by exact rfl)(hy:ev fr y=some (.agg xs'.toArray):=by exact rfl)(hT:∀w,(sizeOf T).run C.P w= .ok xs'.length w:=by exact fun _=>rfl)(h1:∀u∈xs',u.oneCell'=true:=by exact jp rfl)(hu:At cs (row bb xs t) mk:=by exact Za)(ho:xs'.length=xs.length:=by exact rfl):
  WL C ops Q (⟨none,.store T x y,ty,pos,af,none⟩::rest) fr cs:=dD (bV hT hx hy h1 hu ho) (by rintro _ _ ⟨rfl,rfl⟩;exact h)
theorem ZN{z:Value}(h:∀b,WL C ops Q rest ((d,.pointer (some ⟨b,0,none⟩))::fr) (cs++[row b xs T]))(hz:∀w,(zeroValue T).run C.P w= .ok z w:=by exact fun _=>rfl)(hzs:z.cells=xs.toArray:=by exact rfl)(hd:Nat.blt d C.N=true:=by exact rfl):
  WL C ops Q (⟨some d,.alloc T,ty,pos,af,none⟩::rest) fr cs:=fb (ft hz hzs) hd (by rintro _ _ ⟨b,rfl,rfl⟩;exact h b)
theorem ZO(h:∀b,WL C ops Q rest ((d,.pointer (some ⟨b,0,none⟩))::fr) (cs++[row b xs T]))(hx:ev fr x=some v:=by exact rfl)(hv:v.cells=xs.toArray:=by exact rfl)(hd:Nat.blt d C.N=true:=by exact rfl):
  WL C ops Q (⟨some d,.box T x,ty,pos,af,none⟩::rest) fr cs:=fb (sJ hx hv) hd (by rintro _ _ ⟨b,rfl,rfl⟩;exact h b)
theorem ZP{z:Value}(h:∀b,WA C St ops Q fuel (listed.setIfInBounds i true) ((d,.pointer (some ⟨b,0,none⟩))::fr) (cs++[row b xs T]))(hi:ops[i]? =some ⟨some d,.alloc T,ty,pos,af,none⟩:=by exact rfl)(hst:St.st i=false:=by exact rfl)(hz:∀w,(zeroValue T).run C.P w= .ok z w:=by exact fun _=>rfl)(hzs:z.cells=xs.toArray:=by exact rfl)(hd:Nat.blt d C.N=true:=by exact rfl):
  WI C St ops Q fuel listed i fr cs:=iZ hi hst (ft hz hzs) (fun e=>by cases e) hd (by rintro _ _ ⟨b,rfl,rfl⟩;exact h b)
theorem ZQ(h:WA C St ops Q fuel (listed.setIfInBounds i true) fr (mk (row bb xs' t)))(hi:ops[i]? =some ⟨none,.store T x y,ty,pos,af,none⟩:=by exact rfl)(hst:St.st i=true:=by exact rfl)(hl:St.l0=[]:=by exact rfl)(hT:∀w,(sizeOf T).run C.P w= .ok 1 w:=by exact fun _=>rfl)(hx:ev fr x=some (.pointer (some ⟨bb,r,none⟩)):=by exact rfl)(hy:ev fr y=some v:=by exact rfl)(h1:v.oneCell'=true:=by exact rfl)(hu:At cs (row bb xs t) mk:=by exact Za)(hs:nB xs r v xs':=by exact Zp):
  WI C St ops Q fuel listed i fr cs:=dp hi hst (fc hT hx hy h1 hu hs) (fun _ _ _ _ _ _=>by rw[hl];exact fun _ h=>by cases h) (by rintro _ _ ⟨rfl,rfl⟩;exact h)
theorem ZR(h:WA C St ops Q fuel (listed.setIfInBounds i true) fr (mk (row bb xs' t)))(hi:ops[i]? =some ⟨none,.store T x y,ty,pos,af,none⟩:=by exact rfl)(hst:St.st i=true:=by exact rfl)(hl:St.l0=[]:=by exact rfl)(hx:ev fr x=some (.pointer (some ⟨bb,0,none⟩)):=by exact rfl)(hy:ev fr y=some (.agg xs'.toArray):=by exact rfl)(hT:∀w,(sizeOf T).run C.P w= .ok xs'.length w:=by exact fun _=>rfl)(h1:∀u∈xs',u.oneCell'=true:=by exact jp rfl)(hu:At cs (row bb xs t) mk:=by exact Za)(ho:xs'.length=xs.length:=by exact rfl):
  WI C St ops Q fuel listed i fr cs:=dp hi hst (bV hT hx hy h1 hu ho) (fun _ _ _ _ _ _=>by rw[hl];exact fun _ h=>by cases h) (by rintro _ _ ⟨rfl,rfl⟩;exact h)
theorem ZS{l:List Operand}{vs:List Value}{ats:Array TypeId}{K:Value→List bJ→Prop}(hc:∀w,Inv C.w0 C.S cs w→Ctr C.P f vs w [] K)(h:∀v cs',(∃news,K v news∧cs'=cs++news)→WL C ops Q rest ((d,v)::fr) cs')(hl:evs fr l=some vs:=by exact rfl)(hf:∀args w,(callFunc f args).run C.P w= .ok (.enter f args) w:=by exact fun _ _=>rfl)(hd:Nat.blt d C.N=true:=by exact rfl):
  WL C ops Q (⟨some d,.call {callee:= .value (.func f),args:=l.toArray,argTypes:=ats},ty,pos,af,none⟩::rest) fr cs:=fb (eW hl hf hc) hd h
theorem ZT{l:List Operand}{vs:List Value}{ats:Array TypeId}{K:Value→List bJ→Prop}(hc:∀w,Inv C.w0 C.S cs w→Ctr C.P f vs w [] K)(h:∀v cs',(∃news,K v news∧cs'=cs++news)→WA C St ops Q fuel (listed.setIfInBounds i true) ((d,v)::fr) cs')(hi:ops[i]? =some ⟨some d,.call {callee:= .value (.func f),args:=l.toArray,argTypes:=ats},ty,pos,af,none⟩:=by exact rfl)(hst:St.st i=false:=by exact rfl)(hl:evs fr l=some vs:=by exact rfl)(hf:∀args w,(callFunc f args).run C.P w= .ok (.enter f args) w:=by exact fun _ _=>rfl)(hd:Nat.blt d C.N=true:=by exact rfl):
  WI C St ops Q fuel listed i fr cs:=iZ hi hst (eW hl hf hc) (fun e=>by cases e) hd h
end
section
variable {C:Cx} {Q:kM} {fr:Fr} {cs:List bJ} {ops:Array Oper} {x y z:Code} {id:Nat} {l:List Oper}
end
end Go.Ink
