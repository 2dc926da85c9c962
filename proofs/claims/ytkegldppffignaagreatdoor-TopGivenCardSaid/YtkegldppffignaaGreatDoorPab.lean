/- Lemmas. -/
import Derived.Test.YtkegldppffignaaGreatDoorPaa
import Derived.Laws.StructEq
import Derived.LaidMore
import Derived.OpenShut
import Derived.Handed
import Derived.Stop.Joined
set_option linter.unusedSimpArgs false
set_option linter.unusedVariables false
set_option maxRecDepth 100000
set_option maxHeartbeats 4000000
namespace Go.Ink
open Go.RowKit
theorem jf{w:World}{sz n c:Nat}{A:Option Addr}{xs:List Value}(h:RdV w sz A n c xs):∃w,RdV w sz A n c xs:=⟨w,h⟩
def EqV(P:Program)(k:Nat)(T:TypeId)(a b:Value):Prop:=∀w:World,(Op.equalIn k T a b).run P w= .ok true w
def EqF(P:Program)(k:Nat)(xs ys:Array Value)(fs:List Field):Prop:=∀w:World,(Op.eqFields k xs ys fs).run P w= .ok true w
section
variable {P:Program} {k:Nat} {T:TypeId}
theorem EqF.nil{xs ys:Array Value}:EqF P k xs ys []:=λw=>rfl
theorem EqF.cons{xs ys:Array Value}{f:Field}{fs:List Field}{a b:Value}(hn:f.name≠ "_")(ha:∀w,(part f.type xs f.offset).run P w= .ok a w)(hb:∀w,(part f.type ys f.offset).run P w= .ok b w)(he:EqV P k f.type a b)(h:EqF P k xs ys fs):EqF P k xs ys (f::fs):=λw=>by
 simp only[Op.eqFields,if_pos hn,Sem.run_bind,ha w,hb w,Result.andThen_ok,he w,Bool.not_true,Bool.false_eq_true,if_false]
 exact h w
theorem EqV.int{kd kd':IntKind}{a:Int}(h:P.underlying T=some (.int kd')):EqV P (k+1) T (.int kd a) (.int kd a):=λw=>by
 rw[run_equalIn_int w k T kd kd' a a h,beq_self_eq_true]
theorem EqV.bool{a:Bool}(h:P.underlying T=some .bool):EqV P (k+1) T (.bool a) (.bool a):=λw=>by
 rw[run_equalIn_bool' w k T a a h,beq_self_eq_true]
theorem EqV.struct{xs ys:Array Value}(h:P.underlying T=some (.struct (P.fieldsOf T)))(hp:P.stoodInHeld T=false)(hf:EqF P k xs ys (P.fieldsOf T).toList):EqV P (k+1) T (.agg xs) (.agg ys):=λw=>by
 rw[run_equalIn_struct w k T xs ys h hp]
 exact hf w
end
section
variable {C:Cx} {fr:Fr} {d:Option Nat} {T T':TypeId} {x y:Operand} {ty:TypeId} {pos:String} {af:Array Edge} {gd:Option (Nat×Bool)} {g:Bool}
theorem y_eqlT{xs ys:Array Value}(hm:C.P.eqGuardType C.P.depth T=false)(he:EqV C.P 10000 T (.agg xs) (.agg ys))(hx:Ev fr g x (.agg xs))(hy:Ev fr g y (.agg ys)):OpY C ⟨d,.binOp .eql T x y T',ty,pos,af,gd⟩ fr g Any (.bool true):=λA w hf _ hg=>by
 simp[execOp,hx.eval hf hg,hy.eval hf hg,run_eqGuard_agg w _ _ _ _ _ _ hm,run_eql_struct,he w,Result.andThen]
end
def uL:List Nat->Nat->Bool
 |[],_=>false
 |y::l,x=>Nat.beq y x||uL l x
theorem kU{x:Nat}:∀{l:List Nat},uL l x=true<->x∈l
 |[]=>by simp[uL]
 |y::l=>by
  simp only[uL,Bool.or_eq_true,aJ,kU (l:=l)]
  constructor
  .rintro(h|h)
   .exact .inl (Nat.eq_of_beq_eq_true h).symm
   exact .inr h
  rintro(rfl|h)
  .exact .inl (Nat.beq_refl _)
  exact .inr h
structure Sk where
 i:Nat
 k:Nat
 d:List Nat
 l:List Nat
 w:List Nat
def pj(ops:Array Oper)(p:Nat×Nat):Sk:=
 match ops[p.1]? with
 |some o=>⟨p.1,p.2,o.dst.toList,o.looksAt ops,(o.after.toList.filter (Region.binds .any)).map (·.on)⟩
 |none=>⟨p.1,9,[],[],[]⟩
def vU(x y:Sk):Bool:=x.d.all (λd=> !uL y.l d&& !uL y.d d)&&y.d.all (λd=> !uL x.l d)
def chk4(st:Nat->Bool)(x:Sk):List Sk->List Nat->Bool
 |[],_=>true
 |r::rest,B=>bif r.w.any (λe=>Nat.beq e x.i||uL B e)then chk4 st x rest (r.i::B)else vU x r&& !st r.i&&chk4 st x rest B
def IN(n:Nat)(st:Nat->Bool)(x:Sk)(rest:List Sk):Bool:=
 (x.w.all (λe=>Nat.blt e n&& !Nat.beq e x.i&&rest.all (λr=> !Nat.beq r.i e)))&&
 rest.all (λr=> !Nat.beq r.i x.i&&
  match x.k with
  |0=>uL r.w x.i||vU x r
  |1=>uL r.w x.i||(vU x r&& !st r.i)
  |2=>r.w.any (λe=>Nat.beq x.i e||rest.any (λq=>Nat.beq q.i e))
  |4=>true
  |_=>false)&&
 (!Nat.beq x.k 4||chk4 st x rest [])
def Chk(n:Nat)(st:Nat->Bool):List Sk->Bool
 |[]=>true
 |x::rest=>Nat.beq x.k 3||(IN n st x rest&&Chk n st rest)
structure Lst(n:Nat)(listed:Array Bool)(l:List Nat):Prop where
 size:listed.size=n
 iff:∀j,listed.getD j true=false<->j∈l
theorem Lst.step{n i:Nat}{listed:Array Bool}{l:List Nat}(h:Lst n listed (i::l))(hn:i∉l):Lst n (listed.setIfInBounds i true) l:=by
 refine⟨by simp[h.size],λj=>?_⟩
 have hi:=(h.iff i).2 cE
 by_cases e:i=j
 .subst e
  simp only[bA,Array.getElem?_setIfInBounds_self]
  constructor
  .intro h2
   split at h2<;>simp at h2
  exact λh2=>absurd h2 hn
 have h1:=h.iff j
 simp only[bA,Array.getElem?_setIfInBounds_ne e]at h1|-
 rw[h1]
 simp[Ne.symm e]
theorem Lst.set{n:Nat}{listed:Array Bool}{l l':List Nat}(h:Lst n listed l)(hs:∀j,j∈l<->j∈l'):Lst n listed l':=⟨h.size,λj=>(h.iff j).trans (hs j)⟩
def SkOk(ops:Array Oper)(x:Sk)(o:Oper):Prop:=x.d=o.dst.toList/\x.l=o.looksAt ops/\x.w=(o.after.toList.filter (Region.binds .any)).map (·.on)
theorem lR{ops:Array Oper}{p:Nat×Nat}{o:Oper}(h:ops[p.1]? =some o):(pj ops p).i=p.1/\(pj ops p).k=p.2/\SkOk ops (pj ops p) o:=by
 unfold pj
 rw[h]
 exact⟨rfl,rfl,rfl,rfl,rfl⟩
theorem BN{ops:Array Oper}{p:Nat×Nat}:(pj ops p).i=p.1:=by
 unfold pj
 split<;>rfl
theorem nq{ops:Array Oper}{x y:Sk}{ox oy:Oper}(hx:SkOk ops x ox)(hy:SkOk ops y oy)(h:vU x y=true):ox.apart ops oy=true:=by
 obtain⟨hx1,hx2, -⟩:=hx
 obtain⟨hy1,hy2, -⟩:=hy
 simp only[vU,hx1,hx2,hy1,hy2,aL,bo,Bool.not_eq_true',Bool.eq_false_iff,ne_eq,kU]at h
 obtain⟨h1,h2⟩:=h
 unfold Oper.apart
 rw[aL]
 constructor
 .cases hd:ox.dst with
  |none=>rfl
  |some d=>
   have:=h1 d (by simp[hd])
   simp only[aL,Bool.not_eq_true',List.contains_eq_mem,ah,bne_iff_ne,ne_eq]
   refine⟨this.1,λe=>this.2 (by simp[e])⟩
 cases hd:oy.dst with
 |none=>rfl
 |some d=>
  have:=h2 d (by simp[hd])
  simpa using this
theorem ls{ops:Array Oper}{x:Sk}{o:Oper}(h:SkOk ops x o){e:Nat}:e∈x.w<->∃z,z∈o.after/\Region.binds .any z=true/\z.on=e:=by
 rw[h.2.2]
 simp only[aZ,List.mem_filter,Array.mem_toList_iff]
 constructor
 .rintro⟨z,⟨h1,h2⟩,h3⟩;exact⟨z,h1,h2,h3⟩
 rintro⟨z,h1,h2,h3⟩;exact⟨z,⟨h1,h2⟩,h3⟩
theorem ue{st:Nat->Bool}{x:Sk}:∀(rest:List Sk) (B0:List Nat),chk4 st x rest B0=true->∃B:List Nat,(∀b,b∈B0->b∈B)/\(∀r,r∈rest->r.i∉B->vU x r=true/\st r.i=false)/\(∀b,b∈B->b∈B0\/∃r,r∈rest/\r.i=b/\∃e,e∈r.w/\(e=x.i\/e∈B))
 |[],B0,_=>⟨B0,λ_ h=>h,(λr h=>by cases h),λb h=> .inl h⟩
 |r::rest,B0,h=>by
  unfold chk4 at h
  cases hw:r.w.any (λe=>Nat.beq e x.i||uL B0 e)with
  |true=>
   rw[hw,ac]at h
   obtain⟨B,h1,h2,h3⟩:=ue rest _ h
   obtain⟨e,he,hx⟩:=List.any_eq_true.1 hw
   refine⟨B,λb hb=>h1 b (bH _ hb),λq hq hn=>?_,λb hb=>?_⟩
   .rcases aJ.1 hq with rfl|hq
    .exact absurd (h1 _ cE) hn
    exact h2 q hq hn
   rcases h3 b hb with h4|⟨q,hq,h5⟩
   .rcases aJ.1 h4 with rfl|h4
    .refine .inr ⟨r,by simp,rfl,e,he,?_⟩
     simp only[Bool.or_eq_true,kU]at hx
     rcases hx with hx|hx
     .exact .inl (Nat.eq_of_beq_eq_true hx)
     exact .inr (h1 e (bH _ hx))
    exact .inl h4
   exact .inr ⟨q,bH _ hq,h5⟩
  |false=>
   rw[hw,aa,aL,aL,Bool.not_eq_true']at h
   obtain⟨B,h1,h2,h3⟩:=ue rest _ h.2
   refine⟨B,h1,λq hq hn=>?_,λb hb=>?_⟩
   .rcases aJ.1 hq with rfl|hq
    .exact h.1
    exact h2 q hq hn
   rcases h3 b hb with h4|⟨q,hq,h5⟩
   .exact .inl h4
   exact .inr ⟨q,bH _ hq,h5⟩
section
variable {P:Program} {ops:Array Oper} {Q:lK} {md:Region.Mode} {St:Dr}
theorem BB{listed:Array Bool}{i:Nat}(h0:listed.getD i true=false):¬(listed.getD i false=true):=λh1=>by
 rcases Nat.lt_or_ge i listed.size with h'|h'
 .simp[h']at h0 h1;rw[h0]at h1;cases h1
 simp[Array.getElem?_eq_none h']at h1
theorem wa{i:Nat}{oi:Oper}{v:Value}{V:World->Prop}(B:List Nat)(hV:∀w w',vY w w'->V w->V w')(hi:ops[i]? =some oi)(hsel:∀(j:Nat) (o:Oper) cs b,ops[j]? =some o->o.op≠ .select cs b)
  (hQ:∀c a w,Q (.panic c) (a.put oi.dst v) w->Q (.panic c) a w):
  ∀(fuel:Nat) (listed:Array Bool) (a:Act) (w:World),
   (∀b,b∈B->listed.getD b true=false/\∀ob,ops[b]? =some ob->∃e∈ob.after,Region.binds md e=true/\(e.on=i\/e.on∈B))->
   (∀j oj,ops[j]? =some oj->j≠i->listed.getD j true=false->j∉B->oi.apart ops oj=true/\St.st j=false)->
   i∈Region.ready md ops listed->YieldsIf P ops V oi v a->V w->
   qN P md ops Q St fuel (listed.setIfInBounds i true) (a.put oi.dst v) w->qN P md ops Q St (fuel+1) listed a w:=by
 intro fuel
 induction fuel with
 |zero=>
  intro listed a w _ _ hr hy hS H
  refine⟨λh=>(by rw[h]at hr;cases hr),λj hj=>?_⟩
  by_cases hji:j=i
  .subst hji;exact hy.wpOp hi hS ⟨⟨λ_ _ _ h=>h,λh=>h⟩,H⟩
  have:=ready_mono hj hji
  rw[H.1]at this
  cases this
 |succ fuel ih=>
  intro listed a w hB hfree hr hy hS H
  refine⟨λh=>(by rw[h]at hr;cases hr),λj hj=>?_⟩
  by_cases hji:j=i
  .subst hji;exact hy.wpOp hi hS ⟨⟨λ_ _ _ h=>h,λh=>h⟩,H⟩
  have h1:=H.2 j (ready_mono hj hji)
  obtain⟨hjun,oj,hoj,hall⟩:=mem_ready.1 hj
  have hjB:j∉B:=λhm=>by
   obtain⟨e,he,hb,hx⟩:=(hB j hm).2 oj hoj
   have h2:=hall e he hb
   rcases hx with hx|hx
   .rw[hx]at h2;exact BB (mem_ready.1 hr).1 h2
   exact BB (hB _ hx).1 h2
  obtain⟨hap,hst⟩:=hfree j oj hoj hji hjun hjB
  have h2:=wpOp_putIf hoj hap (λcs b=>hsel i oi cs b hi) (λcs b=>hsel j oj cs b hoj) hQ hy h1
  have hB':∀b,b∈B->(listed.setIfInBounds j true).getD b true=false/\∀ob,ops[b]? =some ob->∃e∈ob.after,Region.binds md e=true/\(e.on=i\/e.on∈B):=λb hb=>by
   refine⟨?_,(hB b hb).2⟩
   have hne:¬j=b:=λe=>hjB (by rw[e];exact hb)
   rw[getD_set_ne true hne]
   exact(hB b hb).1
  have hfree':∀k ok,ops[k]? =some ok->k≠i->(listed.setIfInBounds j true).getD k true=false->k∉B->oi.apart ops ok=true/\St.st k=false:=λk ok hk hki hun hno=>by
   refine hfree k ok hk hki ?_ hno
   by_cases hjk:j=k
   .subst hjk;exact hjun
   rw[getD_set_ne true hjk]at hun;exact hun
  refine wpOp_mono (λa' w' h3=>⟨h3.2.1,ih (listed.setIfInBounds j true) a' w' hB' hfree' (ready_mono hr (Ne.symm hji)) h3.1 (hV _ _ (h3.2.1.1 hst) hS) ?_⟩) h2
  rw[Array.setIfInBounds_comm _ _ hji]
  exact h3.2.2
end
section
variable {ops:Array Oper} {st:Nat->Bool} {i k:Nat} {s:List (Nat×Nat)} {listed:Array Bool} {oi:Oper}
theorem nJ{j:Nat}(h:j∈s.map (·.1)):∃q,q∈s.map (pj ops)/\q.i=j/\∀o,ops[j]? =some o->SkOk ops q o:=by
 obtain⟨p,hp,rfl⟩:=aZ.1 h
 exact⟨pj ops p,aZ.2 ⟨p,hp,rfl⟩,BN,λo ho=>(lR ho).2.2⟩
theorem BM{q:Sk}(h:q∈s.map (pj ops)):q.i∈s.map (·.1):=by
 obtain⟨p,hp,rfl⟩:=aZ.1 h
 rw[BN]
 exact aZ.2 ⟨p,hp,rfl⟩
theorem ud(hi:ops[i]? =some oi)(hL:Lst ops.size listed (((i,k)::s).map (·.1)))(hc:IN ops.size st (pj ops (i,k)) (s.map (pj ops))=true):i∈Region.ready .any ops listed:=by
 obtain⟨e1, -,hk⟩:=lR (p:=(i,k)) hi
 have e1:(pj ops (i,k)).i=i:=e1
 simp only[IN,aL,bo]at hc
 rw[mem_ready]
 refine⟨(hL.iff i).2 cE,oi,hi,λe he hb=>?_⟩
 obtain⟨⟨h1,h2⟩,h3⟩:=hc.1.1 e.on ((ls hk).2 ⟨e,he,hb,rfl⟩)
 have hlt:e.on<ops.size:=by simpa[Nat.blt_eq]using h1
 have hne:e.on≠i:=by
  intro h
  rw[e1,h]at h2
  simp at h2
 cases hg:listed.getD e.on true with
 |true=>
  simp only[bA]at hg|-
  cases hq:listed[e.on]? with
  |none=>
   rw[Array.getElem?_eq_none_iff,hL.size]at hq
   omega
  |some b=>rw[hq]at hg;exact hg
 |false=>
  have:=(hL.iff e.on).1 hg
  simp only[List.map_cons,aJ,hne,false_or]at this
  obtain⟨q,hq,e3, -⟩:=nJ (ops:=ops) this
  have:=h3 q hq
  rw[e3]at this
  simp at this
theorem Bi(hc:IN ops.size st (pj ops (i,k)) (s.map (pj ops))=true):i∉s.map (·.1):=λh=>by
 simp only[IN,aL,bo]at hc
 obtain⟨q,hq,e3, -⟩:=nJ (ops:=ops) h
 have:=(hc.1.2 q hq).1
 rw[BN,e3]at this
 simp at this
theorem LJ(hi:ops[i]? =some oi)(hL:Lst ops.size listed (((i,k)::s).map (·.1)))(hc:IN ops.size st (pj ops (i,k)) (s.map (pj ops))=true)(hk:k=0\/k=1)(j:Nat)(oj:Oper)
  (hj:ops[j]? =some oj) (hne:j≠i) (hun:listed.getD j true=false) (hno:∀e∈oj.after,Region.binds .any e=true->e.on≠i):oi.apart ops oj=true/\(k=1->st j=false):=by
 have hjm:=(hL.iff j).1 hun
 simp only[List.map_cons,aJ,hne,false_or]at hjm
 obtain⟨q,hq,e3,e4⟩:=nJ (ops:=ops) hjm
 have hq4:=e4 oj hj
 obtain⟨e1,e2,hkx⟩:=lR (p:=(i,k)) hi
 simp only[IN,aL,bo]at hc
 have h1:=(hc.1.2 q hq).2
 rw[e2,e1]at h1
 have hw:uL q.w i=false:=by
  cases hm:uL q.w i with
  |false=>rfl
  |true=>
   obtain⟨z,z1,z2,z3⟩:=(ls hq4).1 (kU.1 hm)
   exact absurd z3 (hno z z1 z2)
 rcases hk with rfl|rfl
 .simp only[hw,Bool.false_or]at h1
  exact⟨nq hkx hq4 h1,λh=>by cases h⟩
 simp only[hw,Bool.false_or,aL,Bool.not_eq_true']at h1
 exact⟨nq hkx hq4 h1.1,λ_=>e3▸h1.2⟩
theorem LH(hi:ops[i]? =some oi)(hL:Lst ops.size listed (((i,2)::s).map (·.1)))(hc:IN ops.size st (pj ops (i,2)) (s.map (pj ops))=true)(j:Nat)(hj:j∈Region.ready .any ops listed):j=i:=by
 obtain⟨hun,oj,hoj,hall⟩:=mem_ready.1 hj
 have hjm:=(hL.iff j).1 hun
 simp only[List.map_cons,aJ]at hjm
 rcases hjm with h|hjm
 .exact h
 exfalso
 obtain⟨q,hq,e3,e4⟩:=nJ (ops:=ops) hjm
 obtain⟨e1,e2,hkx⟩:=lR (p:=(i,2)) hi
 simp only[IN,aL,bo]at hc
 have h1:=(hc.1.2 q hq).2
 rw[e2,e1]at h1
 obtain⟨e,he,h2⟩:=List.any_eq_true.1 h1
 obtain⟨z,z1,z2,z3⟩:=(ls (e4 oj hoj)).1 he
 have hz:=hall z z1 z2
 rw[z3]at hz
 have hin:e∈((i,2)::s).map (·.1):=by
  simp only[Bool.or_eq_true,List.any_eq_true]at h2
  rcases h2 with h2|⟨q2,hq2,h2⟩
  .simp[Nat.eq_of_beq_eq_true h2]
  have:=BM hq2
  rw[Nat.eq_of_beq_eq_true h2]at this
  simp only[List.map_cons,aJ]
  exact .inr this
 have hf:=(hL.iff e).2 hin
 simp only[bA]at hz hf
 cases hb:listed[e]? with
 |none=>rw[hb]at hz;cases hz
 |some b=>rw[hb]at hz hf;simp only[Option.getD_some]at hz hf;rw[hz]at hf;cases hf
end
def WS(C:Cx)(St:Dr)(ops:Array Oper)(Q:lK)(s:List (Nat×Nat))(fr:Fr)(cs:List bL):Prop:=
 ∀fuel listed,s.length<=fuel->Lst ops.size listed (s.map (·.1))->Chk ops.size St.st (s.map (pj ops))=true->Region.noSelect ops=true->WA C St ops Q fuel listed fr cs
def WSI(C:Cx)(St:Dr)(ops:Array Oper)(Q:lK)(i:Nat)(s:List (Nat×Nat))(fr:Fr)(cs:List bL):Prop:=
 ∀fuel listed,s.length<=fuel->Lst ops.size (listed.setIfInBounds i true) (s.map (·.1))->Chk ops.size St.st (s.map (pj ops))=true->Region.noSelect ops=true->WI C St ops Q fuel listed i fr cs
section
variable {C:Cx} {Q:lK} {fr:Fr} {cs:List bL} {ops:Array Oper} {d:Nat} {op:Op} {ty:TypeId} {pos:String} {af:Array Edge} {gd:Option (Nat×Bool)} {V:World->Prop} {v:Value} {g:Bool}
 {St:Dr} {i:Nat} {s:List (Nat×Nat)}
def Sched(ops:Array Oper)(st:Nat->Bool)(s:List (Nat×Nat)):Bool:=
 Region.noSelect ops&&Nat.ble s.length ops.size&&(List.range ops.size).all (λj=>uL (s.map (·.1)) j)&&s.all (λp=>Nat.blt p.1 ops.size)&&Chk ops.size st (s.map (pj ops))
theorem iR{id:Nat}{l:List Oper}(St:Dr)(s:List (Nat×Nat))(hm:C.P.follows .mixedOrders=true)(hc:Sched l.toArray St.st s=true)(h:WS C St l.toArray Q s fr cs):WC C (.region id l.toArray true) Q fr cs:=by
 simp only[Sched,aL,bo,List.mem_range,kU,Nat.blt_eq,Nat.ble_eq]at hc
 obtain⟨⟨⟨⟨h1,h2⟩,h3⟩,h4⟩,h5⟩:=hc
 refine bU St hm (h _ _ (by simpa using h2) ⟨by simp,λj=>?_⟩ h5 h1)
 constructor
 .intro hj
  refine h3 j ?_
  rcases Nat.lt_or_ge j l.length with hlt|hge
  .simpa using hlt
  rw[bA,Array.getElem?_eq_none (by simpa using hge)]at hj
  cases hj
 intro hj
 obtain⟨p,hp,rfl⟩:=aZ.1 hj
 have:=h4 p hp
 have:p.1<l.length:=by simpa using this
 simp[bA,this]
theorem eU(h:QOk C Q .normal fr cs):WS C St ops Q [] fr cs:=λfuel listed _ hL _ _=>wg (by
 refine List.eq_nil_iff_forall_not_mem.2 λj hj=>?_
 have:=(hL.iff j).1 (mem_ready.1 hj).1
 cases this) h
theorem xC{x:Sk}{rest:List Sk}{n:Nat}{st:Nat->Bool}(h:Chk n st (x::rest)=true)(hk:x.k≠3):IN n st x rest=true/\Chk n st rest=true:=by
 simp only[Chk,Bool.or_eq_true,aL]at h
 rcases h with h|h
 .exact absurd (Nat.eq_of_beq_eq_true h) hk
 exact h
theorem Bu{k:Nat}(hk:k=0\/k=1)(hV:∀w w',vY w w'->V w->V w')(hi:ops[i]? =some ⟨some d,op,ty,pos,af,gd⟩)(hg:bS ops fr ⟨some d,op,ty,pos,af,gd⟩ g)(hy:OpY C ⟨some d,op,ty,pos,af,gd⟩ fr g V v)
  (hcl:(∀w,V w)\/k=1\/(∀w w',(cells St.l0 w->cells St.l0 w')->V w->V w')) (hW:∀w,Inv C.w0 C.S cs w->V w) (hd:Nat.blt d C.N=true)
  (h:WS C St ops Q s ((d,bif g then v else undef)::fr) cs):WS C St ops Q ((i,k)::s) fr cs:=λfuel listed hf hL hc hn=>by
 obtain⟨e1,e2,e3⟩:=lR (p:=(i,k)) hi
 have hk3:(pj ops (i,k)).k≠3:=by rw[e2];rcases hk with rfl|rfl;exact(by decide:(0:Nat)≠3);exact(by decide:(1:Nat)≠3)
 obtain⟨c1,c2⟩:=xC hc hk3
 have hL2:=hL.step (Bi c1)
 obtain⟨fuel,rfl⟩:∃m,fuel=m+1:=⟨fuel - 1,by simp at hf;omega⟩
 have h2:=h fuel _ (by simpa using hf) hL2 c2 hn
 exact λa w hfr hi'=>jC (V:=V) hV hi (Region.noSelect_spec hn) (λ_ _ _ h=>h) fuel listed a w
  (λj oj hj hne hun hno=>by
   have h3:=LJ hi hL c1 hk j oj hj hne hun hno
   refine⟨h3.1,?_⟩
   rcases hcl with h|h|h
   .exact .inl h
   .exact .inr (.inl (h3.2 h))
   exact .inr (.inr h))
  (ud hi hL c1) (jj hg hy hfr) (hW w hi') (h2 _ w (hfr.put (by simpa[Nat.blt_eq]using hd) _) hi')
theorem ws_y(hi:ops[i]? =some ⟨some d,op,ty,pos,af,gd⟩)(hg:bS ops fr ⟨some d,op,ty,pos,af,gd⟩ g)(hy:OpY C ⟨some d,op,ty,pos,af,gd⟩ fr g Any v)(hd:Nat.blt d C.N=true)
  (h:WS C St ops Q s ((d,bif g then v else undef)::fr) cs):WS C St ops Q ((i,0)::s) fr cs:=
 Bu (.inl rfl) (λ_ _ _ h=>h) hi hg hy (.inl λ_=>trivial) (λ_ _=>trivial) hd h
theorem cW(hi:ops[i]? =some ⟨some d,op,ty,pos,af,none⟩)(hy:OpY C ⟨some d,op,ty,pos,af,none⟩ fr true Any v)(hd:Nat.blt d C.N=true)
  (h:WS C St ops Q s ((d,v)::fr) cs):WS C St ops Q ((i,0)::s) fr cs:=ws_y hi gv hy hd h
theorem ws_l{l:List (Addr×Value)}(hi:ops[i]? =some ⟨some d,op,ty,pos,af,gd⟩)(hg:bS ops fr ⟨some d,op,ty,pos,af,gd⟩ g)(hy:OpY C ⟨some d,op,ty,pos,af,gd⟩ fr g (cells l) v)(hV:∀w,Inv C.w0 C.S cs w->cells l w)(hd:Nat.blt d C.N=true)
  (h:WS C St ops Q s ((d,bif g then v else undef)::fr) cs):WS C St ops Q ((i,1)::s) fr cs:=
 Bu (.inr rfl) (λ_ _ hp h x hx=>hp _ _ (h x hx)) hi hg hy (.inr (.inl rfl)) hV hd h
theorem v8{l:List (Addr×Value)}(hi:ops[i]? =some ⟨some d,op,ty,pos,af,none⟩)(hy:OpY C ⟨some d,op,ty,pos,af,none⟩ fr true (cells l) v)(hV:∀w,Inv C.w0 C.S cs w->cells l w)(hd:Nat.blt d C.N=true)
  (h:WS C St ops Q s ((d,v)::fr) cs):WS C St ops Q ((i,1)::s) fr cs:=ws_l hi gv hy hV hd h
theorem ny{T:TypeId}{x:Operand}{bb t:Nat}{xs:List Value}(hi:ops[i]? =some ⟨some d,.load T x,ty,pos,af,none⟩)(hc:Has cs (row bb xs t))(hT:∀w,(isAgg T).run C.P w= .ok true w)(hs:∀w,(sizeOf T).run C.P w= .ok xs.length w)(hx:Ev fr true x (.pointer (some ⟨bb,0,none⟩)))(hd:Nat.blt d C.N=true)
  (h:WS C St ops Q s ((d,.agg xs.toArray)::fr) cs):WS C St ops Q ((i,1)::s) fr cs:=v8 hi (cz hT hs hx) (tC hc) hd h
theorem ws_l4{l:List (Addr×Value)}(hi:ops[i]? =some ⟨some d,op,ty,pos,af,gd⟩)(hg:bS ops fr ⟨some d,op,ty,pos,af,gd⟩ g)(hy:OpY C ⟨some d,op,ty,pos,af,gd⟩ fr g (cells l) v)(hV:∀w,Inv C.w0 C.S cs w->cells l w)(hd:Nat.blt d C.N=true)
  (h:WS C St ops Q s ((d,bif g then v else undef)::fr) cs):WS C St ops Q ((i,4)::s) fr cs:=λfuel listed hf hL hc hn=>by
 obtain⟨e1,e2,e3⟩:=lR (p:=(i,4)) hi
 have hk3:(pj ops (i,4)).k≠3:=by rw[e2];exact(by decide:(4:Nat)≠3)
 obtain⟨c1,c2⟩:=xC hc hk3
 have hnew:=Bi c1
 have hL2:=hL.step hnew
 have h4:chk4 St.st (pj ops (i,4)) (s.map (pj ops)) []=true:=by
  have c3:=c1
  simp only[IN,aL,e2]at c3
  simpa using c3.2
 obtain⟨B, -,b2,b3⟩:=ue _ _ h4
 obtain⟨fuel,rfl⟩:∃m,fuel=m+1:=⟨fuel - 1,by simp at hf;omega⟩
 have h2:=h fuel _ (by simpa using hf) hL2 c2 hn
 have hin:∀b,b∈s.map (·.1)->listed.getD b true=false:=λb hb=>(hL.iff b).2 (by simp only[List.map_cons,aJ];exact .inr hb)
 exact λa w hfr hi'=>wa (V:=cells l) B (λ_ _ hp h x hx=>hp _ _ (h x hx)) hi (Region.noSelect_spec hn) (λ_ _ _ h=>h) fuel listed a w
  (λb hb=>by
   rcases b3 b hb with h5|⟨r,hr,rfl,e,he,hx⟩
   .cases h5
   obtain⟨p,hp,rfl⟩:=aZ.1 hr
   refine⟨hin _ (BM (aZ.2 ⟨p,hp,rfl⟩)),λob hob=>?_⟩
   rw[BN]at hob
   obtain⟨z,z1,z2,z3⟩:=(ls (lR hob).2.2).1 he
   refine⟨z,z1,z2,?_⟩
   rw[z3]
   rcases hx with hx|hx
   .exact .inl (hx.trans e1)
   exact .inr hx)
  (λj oj hj hne hun hno=>by
   have hjm:=(hL.iff j).1 hun
   simp only[List.map_cons,aJ,hne,false_or]at hjm
   obtain⟨q,hq,q3,q4⟩:=nJ (ops:=ops) hjm
   have h5:=b2 q hq (by rw[q3];exact hno)
   exact⟨nq e3 (q4 oj hj) h5.1,q3▸h5.2⟩)
  (ud hi hL c1) (jj hg hy hfr) (hV w hi') (h2 _ w (hfr.put (by simpa[Nat.blt_eq]using hd) _) hi')
theorem jB{l:List (Addr×Value)}(hi:ops[i]? =some ⟨some d,op,ty,pos,af,none⟩)(hy:OpY C ⟨some d,op,ty,pos,af,none⟩ fr true (cells l) v)(hV:∀w,Inv C.w0 C.S cs w->cells l w)(hd:Nat.blt d C.N=true)
  (h:WS C St ops Q s ((d,v)::fr) cs):WS C St ops Q ((i,4)::s) fr cs:=ws_l4 hi gv hy hV hd h
theorem kq{T:TypeId}{x:Operand}{bb t:Nat}{xs:List Value}(hi:ops[i]? =some ⟨some d,.load T x,ty,pos,af,none⟩)(hc:Has cs (row bb xs t))(hT:∀w,(isAgg T).run C.P w= .ok true w)(hs:∀w,(sizeOf T).run C.P w= .ok xs.length w)(hx:Ev fr true x (.pointer (some ⟨bb,0,none⟩)))(hd:Nat.blt d C.N=true)
  (h:WS C St ops Q s ((d,.agg xs.toArray)::fr) cs):WS C St ops Q ((i,4)::s) fr cs:=jB hi (cz hT hs hx) (tC hc) hd h
theorem fo{oi:Oper}(hi:ops[i]? =some oi)(h:WSI C St ops Q i s fr cs):WS C St ops Q ((i,2)::s) fr cs:=λfuel listed hf hL hc hn=>by
 obtain⟨e1,e2,e3⟩:=lR (p:=(i,2)) hi
 have hk3:(pj ops (i,2)).k≠3:=by rw[e2];exact(by decide:(2:Nat)≠3)
 obtain⟨c1,c2⟩:=xC hc hk3
 have hr:=ud hi hL c1
 obtain⟨fuel,rfl⟩:∃m,fuel=m+1:=⟨fuel - 1,by simp at hf;omega⟩
 have h2:=h fuel listed (by simpa using hf) (hL.step (Bi c1)) c2 hn
 exact λa w hfr hi'=>⟨λh0=>(by rw[h0]at hr;cases hr),λj hj=>by
  have:=LH hi hL c1 j hj
  subst this
  exact h2 a w hfr hi'⟩
inductive Ways (C:Cx) (St:Dr) (ops:Array Oper) (Q:lK) (fr:Fr) (cs:List bL):List (Nat×List (Nat×Nat))->Prop
 |nil:Ways C St ops Q fr cs []
 |cons {i:Nat} {s:List (Nat×Nat)} {L:List (Nat×List (Nat×Nat))} (h:WSI C St ops Q i s fr cs) (t:Ways C St ops Q fr cs L):Ways C St ops Q fr cs ((i,s)::L)
theorem Ways.get{L:List (Nat×List (Nat×Nat))}(h:Ways C St ops Q fr cs L):∀p,p∈L->WSI C St ops Q p.1 p.2 fr cs:=by
 induction h with
 |nil=>exact λp hp=>by cases hp
 |cons h _ ih=>
  intro p hp
  rcases aJ.1 hp with rfl|hp
  .exact h
  exact ih p hp
def Forks(ops:Array Oper)(st:Nat->Bool)(s:List (Nat×Nat))(L:List (Nat×List (Nat×Nat))):Bool:=
 (s.map (pj ops)).all (λq=>uL (L.map (·.1)) q.i||q.w.any (λe=>uL (s.map (·.1)) e))&&
 L.all (λp=>Nat.blt p.2.length s.length&&uL (s.map (·.1)) p.1&& !uL (p.2.map (·.1)) p.1&&s.all (λq=>Nat.beq q.1 p.1||uL (p.2.map (·.1)) q.1)&&p.2.all (λq=>uL (s.map (·.1)) q.1)&&Chk ops.size st (p.2.map (pj ops)))&&
 !L.isEmpty&&(L.all λp=>((pj ops (p.1,0)).w.all λe=>Nat.blt e ops.size&& !uL (s.map (·.1)) e)&&Nat.blt p.1 ops.size)
theorem Jk(L:List (Nat×List (Nat×Nat)))(hc:Forks ops St.st s L=true)(h:Ways C St ops Q fr cs L):WS C St ops Q s fr cs:=λfuel listed hf hL _ hn=>by
 simp only[Forks,aL,bo,kU,Nat.blt_eq,Bool.or_eq_true,List.any_eq_true,Bool.not_eq_true']at hc
 obtain⟨⟨⟨c1,c2⟩,c3⟩,c4⟩:=hc
 have hs0:s≠[]:=by
  intro e
  cases L with
  |nil=>cases c3
  |cons p L=>have:=(c2 p cE).1.1.1.1.1;rw[e]at this;simp at this
 obtain⟨fuel,rfl⟩:∃m,fuel=m+1:=⟨fuel - 1,by have:=List.length_pos_iff.2 hs0;omega⟩
 have hready:∀j,j∈Region.ready .any ops listed->j∈L.map (·.1):=λj hj=>by
  obtain⟨hun,oj,hoj,hall⟩:=mem_ready.1 hj
  obtain⟨q,hq,e3,e4⟩:=nJ (ops:=ops) ((hL.iff j).1 hun)
  rcases c1 q hq with h1|⟨e,he,h1⟩
  .rwa[e3]at h1
  obtain⟨z,z1,z2,z3⟩:=(ls (e4 oj hoj)).1 he
  have hz:=hall z z1 z2
  have hf:=(hL.iff e).2 h1
  rw[z3]at hz
  simp only[bA]at hz hf
  cases hb:listed[e]? with
  |none=>rw[hb]at hz;cases hz
  |some b=>rw[hb]at hz hf;simp only[Option.getD_some]at hz hf;rw[hz]at hf;cases hf
 have hne:Region.ready .any ops listed≠[]:=by
  cases L with
  |nil=>cases c3
  |cons p L=>
   obtain⟨c5,c6⟩:=c4 p cE
   obtain⟨⟨⟨⟨⟨d1,d2⟩,d3⟩,d4⟩,d5⟩,d6⟩:=c2 p cE
   obtain⟨o,ho⟩:∃o,ops[p.1]? =some o:=⟨_,Array.getElem?_eq_getElem c6⟩
   intro h0
   have:p.1∈Region.ready .any ops listed:=mem_ready.2 ⟨(hL.iff _).2 d2,o,ho,λe he hb=>by
    obtain⟨-, -,hk⟩:=lR (p:=(p.1,0)) ho
    obtain⟨f1,f2⟩:=c5 e.on ((ls hk).2 ⟨e,he,hb,rfl⟩)
    have f3:e.on∉s.map (·.1):=λhm=>by rw[kU.2 hm]at f2;cases f2
    cases hg:listed.getD e.on true with
    |true=>
     simp only[bA]at hg|-
     cases hq:listed[e.on]? with
     |none=>
      rw[Array.getElem?_eq_none_iff,hL.size]at hq
      omega
     |some b=>rw[hq]at hg;exact hg
    |false=>exact absurd ((hL.iff e.on).1 hg) f3⟩
   rw[h0]at this
   cases this
 intro a w hfr hi'
 refine⟨λh0=>absurd h0 hne,λj hj=>?_⟩
 obtain⟨p,hp,rfl⟩:=aZ.1 (hready j hj)
 obtain⟨⟨⟨⟨⟨d1,d2⟩,d3⟩,d4⟩,d5⟩,d6⟩:=c2 p hp
 have d3':p.1∉p.2.map (·.1):=λhm=>by rw[kU.2 hm]at d3;cases d3
 refine h.get p hp fuel listed Wq1 (Lst.step (hL.set λj=>?_) d3') d6 hn a w hfr hi'
 constructor
 .intro hj
  obtain⟨q,hq,rfl⟩:=aZ.1 hj
  rcases d4 q hq with h1|h1
  .simp[Nat.eq_of_beq_eq_true h1]
  exact bH _ h1
 intro hj
 rcases aJ.1 hj with rfl|hj
 .exact d2
 obtain⟨q,hq,rfl⟩:=aZ.1 hj
 exact d5 q hq
theorem dO{st:Bool}{K:Value->List bL->Prop}(hi:ops[i]? =some ⟨some d,op,ty,pos,af,none⟩)(hst:St.st i=st)
  (ht:OpT C ⟨some d,op,ty,pos,af,none⟩ fr cs st K) (hJ:st=true->∀v cs',K v cs'->∀w,Inv C.w0 C.S cs' w->cells St.l0 w) (hd:Nat.blt d C.N=true) (h:∀v cs',K v cs'->WS C St ops Q s ((d,v)::fr) cs'):WSI C St ops Q i s fr cs:=λfuel listed h1 h2 h3 h4=>
 kf hi hst ht hJ hd λv cs' hk=>h v cs' hk fuel _ h1 h2 h3 h4
theorem eX{st:Bool}{K:Value->List bL->Prop}(hi:ops[i]? =some ⟨none,op,ty,pos,af,none⟩)(hst:St.st i=st)
  (ht:OpT C ⟨none,op,ty,pos,af,none⟩ fr cs st K) (hJ:st=true->∀v cs',K v cs'->∀w,Inv C.w0 C.S cs' w->cells St.l0 w) (h:∀v cs',K v cs'->WS C St ops Q s fr cs'):WSI C St ops Q i s fr cs:=λfuel listed h1 h2 h3 h4=>
 du hi hst ht hJ λv cs' hk=>h v cs' hk fuel _ h1 h2 h3 h4
theorem EY(hi:ops[i]? =some ⟨some d,op,ty,pos,af,none⟩)(hy:OpY C ⟨some d,op,ty,pos,af,none⟩ fr true V v)(hV:∀w,Inv C.w0 C.S cs w->V w)(hd:Nat.blt d C.N=true)
  (h:WS C St ops Q s ((d,v)::fr) cs):WSI C St ops Q i s fr cs:=λfuel listed h1 h2 h3 h4=>Db hi hy hV hd (h fuel _ h1 h2 h3 h4)
end
theorem Zrf.{u,v}{α:Sort u}{β:Sort v}{f g:α->β}(h:∀x,f x=g x:=by exact λ_=>rfl):∀x,f x=g x:=h
theorem Zgn{α:Type}(a:α):∃b,a=b:=⟨a,rfl⟩
section
variable {C:Cx} {Q:lK} {fr:Fr} {cs cs':List bL} {ops:Array Oper} {x y:Code} {rest:List Oper} {fn:Func} {K:Value->List bL->Prop} {K':Exit->World->Prop} {v v':Value} {d:Nat} {f:FuncId} {ty:TypeId} {pos:String} {af:Array Edge} {i fuel:Nat} {listed:Array Bool} {St:Dr} {s:List (Nat×Nat)} {l:List Operand} {vs:List Value} {ats:Array TypeId}
theorem ZJ{st:Bool}{L:List (Addr×Value)}(hl:L=[]:=by exact rfl):st=true->∀v cs',K v cs'->∀w,Inv C.w0 C.S cs' w->cells L w:=by
 subst hl
 intro _ _ _ _ _ _ _ h
 cases h
theorem ZW{o:Operand}{b:Bool}(ht:b=true->WC C x Q fr cs)(hf:b=false->WC C y Q fr cs)(hc:ev fr o=some (.bool b):=by exact rfl):WC C (.cond o x y) Q fr cs:=zQ b hc ht hf
theorem Zra{t:Nat}(hk:K v [])(h0:fn.results= #[.tmp t]:=by exact rfl)(h1:look fr t=some v:=by exact rfl):QOk C (bodyPost C.P fn (zK C.w0 C.S K)) .ret fr cs:=zH (.inl rfl) (List.nil_sublist _) h0 h1 hk
theorem Zrb{t:Nat}(cs':List bL)(hk:K v cs')(hs:cs'.Sublist cs:=by exact Zu)(h0:fn.results= #[.tmp t]:=by exact rfl)(h1:look fr t=some v:=by exact rfl):QOk C (bodyPost C.P fn (zK C.w0 C.S K)) .ret fr cs:=zH (.inl rfl) hs h0 h1 hk
theorem ZcL(cin:List bL){rs:List bL}(hc:∀w,Inv C.w0 C.S cs w->Inv w (bM cin) cin w->Ctr C.P f vs w cin K)(h:∀v cs',(∃cout,K v cout/\cs'=cout++rs)->WL C ops Q rest ((d,v)::fr) cs')(hl:evs fr l=some vs:=by exact rfl)(hf:∀args w,(callFunc f args).run C.P w= .ok (.enter f args) w:=by exact λ_ _=>rfl)(hp:ja cin cs rs:=by exact Zi)(hd:Nat.blt d C.N=true:=by exact rfl):
  WL C ops Q (⟨some d,.call {callee:= .value (.func f),args:=l.toArray,argTypes:=ats},ty,pos,af,none⟩::rest) fr cs:=gj (dY cin hl hf hp hc) hd h
theorem ZcA(cin:List bL){rs:List bL}(hc:∀w,Inv C.w0 C.S cs w->Inv w (bM cin) cin w->Ctr C.P f vs w cin K)(h:∀v cs',(∃cout,K v cout/\cs'=cout++rs)->WA C St ops Q fuel (listed.setIfInBounds i true) ((d,v)::fr) cs')(hi:ops[i]? =some ⟨some d,.call {callee:= .value (.func f),args:=l.toArray,argTypes:=ats},ty,pos,af,none⟩:=by exact rfl)(hst:St.st i=true:=by exact rfl)(hl0:St.l0=[]:=by exact rfl)(hl:evs fr l=some vs:=by exact rfl)(hf:∀args w,(callFunc f args).run C.P w= .ok (.enter f args) w:=by exact λ_ _=>rfl)(hp:ja cin cs rs:=by exact Zi)(hd:Nat.blt d C.N=true:=by exact rfl):
  WI C St ops Q fuel listed i fr cs:=kf hi hst (dY cin hl hf hp hc) (ZJ hl0) hd h
theorem ZcS(cin:List bL){rs:List bL}(hc:∀w,Inv C.w0 C.S cs w->Inv w (bM cin) cin w->Ctr C.P f vs w cin K)(h:∀v cs',(∃cout,K v cout/\cs'=cout++rs)->WS C St ops Q s ((d,v)::fr) cs')(hi:ops[i]? =some ⟨some d,.call {callee:= .value (.func f),args:=l.toArray,argTypes:=ats},ty,pos,af,none⟩:=by exact rfl)(hst:St.st i=true:=by exact rfl)(hl0:St.l0=[]:=by exact rfl)(hl:evs fr l=some vs:=by exact rfl)(hf:∀args w,(callFunc f args).run C.P w= .ok (.enter f args) w:=by exact λ_ _=>rfl)(hp:ja cin cs rs:=by exact Zi)(hd:Nat.blt d C.N=true:=by exact rfl):
  WSI C St ops Q i s fr cs:=dO hi hst (dY cin hl hf hp hc) (ZJ hl0) hd h
theorem Zv0{x:Operand}{u:Value}{g:Bool}(h:ev fr x=some u:=by exact rfl):Ev fr g x u:=rc h
theorem Zfo{P:Program}{T k n:Nat}(h:iD P T k=some n:=by first|exact(rfl:_=some 0)|exact(rfl:_=some 1)|exact(rfl:_=some 2)|exact(rfl:_=some 3)|exact(rfl:_=some 4)|exact(rfl:_=some 5)|exact(rfl:_=some 6)|exact(rfl:_=some 7)|exact(rfl:_=some 8)|exact(rfl:_=some 9)|exact(rfl:_=some 10)|exact(rfl:_=some 11)|exact(rfl:_=some 12)|exact(rfl:_=some 13)|exact(rfl:_=some 14)|exact(rfl:_=some 15)|exact(rfl:_=some 16)|exact(rfl:_=some 17)|exact(rfl:_=some 18)|exact(rfl:_=some 19)|exact(rfl:_=some 20)|exact(rfl:_=some 21)):iD P T k=some n:=h
theorem ZFc{T:TypeId}{x:Operand}{bb r n o k:Nat}(h:WL C ops Q rest ((d,.pointer (some ⟨bb,r,none⟩))::fr) cs)(ho:iD C.P T k=some n:=by exact Zfo)(hx:Ev fr true x (.pointer (some ⟨bb,o,none⟩)):=by exact Zev)(hr:o+n=r:=by exact Zf)(hd:Nat.blt d C.N=true:=by exact rfl):
  WL C ops Q (⟨some d,.fieldAddr T x k,ty,pos,af,none⟩::rest) fr cs:=dN (dT n ho hx hr) (λ_ _=>trivial) hd h
theorem ZFd{T:TypeId}{x:Operand}{g:Bool}{j:Nat×Bool}{bb r n o k:Nat}(h:WL C ops Q rest ((d,bif g then .pointer (some ⟨bb,r,none⟩)else undef)::fr) cs)(hg:bS ops fr ⟨some d,.fieldAddr T x k,ty,pos,af,some j⟩ g:=by exact Zgd)(ho:iD C.P T k=some n:=by exact Zfo)(hx:Ev fr g x (.pointer (some ⟨bb,o,none⟩)):=by exact Zev)(hr:o+n=r:=by exact Zf)(hd:Nat.blt d C.N=true:=by exact rfl):
  WL C ops Q (⟨some d,.fieldAddr T x k,ty,pos,af,some j⟩::rest) fr cs:=iu hg (dT n ho hx hr) (λ_ _=>trivial) hd h
theorem ZlR{T:TypeId}{x:Operand}{bb t:Nat}{xs:List Value}(h:WL C ops Q rest ((d,.agg xs.toArray)::fr) cs)(hx:Ev fr true x (.pointer (some ⟨bb,0,none⟩)):=by exact Zev)(hc:Has cs (row bb xs t):=by exact Zh)(hT:∀w,(isAgg T).run C.P w= .ok true w:=by exact λ_=>rfl)(hs:∀w,(sizeOf T).run C.P w= .ok xs.length w:=by exact λ_=>rfl)(hd:Nat.blt d C.N=true:=by exact rfl):
  WL C ops Q (⟨some d,.load T x,ty,pos,af,none⟩::rest) fr cs:=C8 hc hT hs hx hd h
theorem ZSe{X:Value}(hc:∀w,Inv C.w0 C.S cs w->Ctr C.P f vs w [] (λv cs=>v=X/\cs=[]))(h:WL C ops Q rest ((d,X)::fr) cs)(hl:evs fr l=some vs:=by exact rfl)(hf:∀args w,(callFunc f args).run C.P w= .ok (.enter f args) w:=by exact λ_ _=>rfl)(hd:Nat.blt d C.N=true:=by exact rfl):
  WL C ops Q (⟨some d,.call {callee:= .value (.func f),args:=l.toArray,argTypes:=ats},ty,pos,af,none⟩::rest) fr cs:=ZS hc (λv cs' ⟨news,⟨h1,h2⟩,h3⟩=>by subst h1 h2;rw[az]at h3;subst h3;exact h) hl hf hd
theorem ZcM{X:Value}(cin:List bL){rs Y:List bL}(hc:∀w,Inv C.w0 C.S cs w->Inv w (bM cin) cin w->Ctr C.P f vs w cin (λv cs=>v=X/\cs=Y))(h:WL C ops Q rest ((d,X)::fr) (Y++rs))(hl:evs fr l=some vs:=by exact rfl)(hf:∀args w,(callFunc f args).run C.P w= .ok (.enter f args) w:=by exact λ_ _=>rfl)(hp:ja cin cs rs:=by exact Zi)(hd:Nat.blt d C.N=true:=by exact rfl):
  WL C ops Q (⟨some d,.call {callee:= .value (.func f),args:=l.toArray,argTypes:=ats},ty,pos,af,none⟩::rest) fr cs:=ZcL cin hc (λv cs' ⟨co,⟨h1,h2⟩,h3⟩=>by subst h1 h2 h3;exact h) hl hf hp hd
end
variable {P Q:Prop}
theorem Z_1(h:Q)(f:Q->P:=by first
 |with_reducible exact λh=>Zs h|with_reducible exact λh=>Zr h|with_reducible exact λh=>Zn h|with_reducible exact λh=>Zt h|with_reducible exact λh=>Zc h|with_reducible exact λh=>Zo h|with_reducible exact λh=>Zx h|with_reducible exact λh=>Ze h|with_reducible exact λh=>Zw h|with_reducible exact λh=>Zq h|with_reducible exact λh=>lN h|with_reducible exact λh=>dA h
 |exact λh=>ZA h|exact λh=>ZFc h|exact λh=>ZC h|exact λh=>ZlR h|exact λh=>ZB h|exact λh=>ZD h|exact λh=>ZFd h
 |exact λh=>fw rfl h|exact λh=>wX rfl h):P:=f h
theorem Z_2(h:Q)(f:Q->P:=by intro h;(iterate 2 refine Z_1 ?_);exact h):P:=f h
theorem Z_3(h:Q)(f:Q->P:=by intro h;(iterate 3 refine Z_1 ?_);exact h):P:=f h
theorem Z_4(h:Q)(f:Q->P:=by intro h;(iterate 4 refine Z_1 ?_);exact h):P:=f h
theorem Z_5(h:Q)(f:Q->P:=by intro h;(iterate 5 refine Z_1 ?_);exact h):P:=f h
theorem Z_6(h:Q)(f:Q->P:=by intro h;(iterate 6 refine Z_1 ?_);exact h):P:=f h
theorem Z_7(h:Q)(f:Q->P:=by intro h;(iterate 7 refine Z_1 ?_);exact h):P:=f h
theorem Z_8(h:Q)(f:Q->P:=by intro h;(iterate 8 refine Z_1 ?_);exact h):P:=f h
theorem Z_9(h:Q)(f:Q->P:=by intro h;(iterate 9 refine Z_1 ?_);exact h):P:=f h
theorem dS(h:Q)(f:Q->P:=by intro h;(iterate 10 refine Z_1 ?_);exact h):P:=f h
theorem fE(h:Q)(f:Q->P:=by intro h;(iterate 11 refine Z_1 ?_);exact h):P:=f h
theorem gR(h:Q)(f:Q->P:=by intro h;(iterate 12 refine Z_1 ?_);exact h):P:=f h
theorem jd(h:Q)(f:Q->P:=by intro h;(iterate 13 refine Z_1 ?_);exact h):P:=f h
theorem gy(h:Q)(f:Q->P:=by intro h;(iterate 14 refine Z_1 ?_);exact h):P:=f h
theorem rj(h:Q)(f:Q->P:=by intro h;(iterate 15 refine Z_1 ?_);exact h):P:=f h
theorem ri(h:Q)(f:Q->P:=by intro h;(iterate 16 refine Z_1 ?_);exact h):P:=f h
theorem xF(h:Q)(f:Q->P:=by intro h;(iterate 17 refine Z_1 ?_);exact h):P:=f h
theorem Bn(h:Q)(f:Q->P:=by intro h;(iterate 18 refine Z_1 ?_);exact h):P:=f h
theorem Je(h:Q)(f:Q->P:=by intro h;(iterate 19 refine Z_1 ?_);exact h):P:=f h
theorem mn(h:Q)(f:Q->P:=by intro h;(iterate 20 refine Z_1 ?_);exact h):P:=f h
def rdB(A:Option Addr):List Value->List Nat
 |[]=>[]
 |_::_=>ab A
theorem EA{w w':World}{a:Addr}(h:w'.heap[a.block]? =w.heap[a.block]?):w'.cell? a=w.cell? a:=by
 unfold World.cell?;rw[h]
theorem cell_lt{w:World}{a:Addr}{v:Value}(h:w.cell? a=some v):a.block<w.heap.size:=by
 unfold World.cell? at h;cases hb:w.heap[a.block]? with
 |none=>rw[hb]at h;cases h
 |some o=>exact(Array.getElem?_eq_some_iff.1 hb).1
def rdC(A:Option Addr)(n c:Nat)(xs:List Value):bL:= .gen (rdB A xs) (λw=>RdV w 1 A n c xs)
 (λw w' hb h=>⟨h.len,h.cap,h.max,h.nil,λad e j u hu=>by
  have h1:=h.at_ ad e j u hu;rw[EA]
  .exact h1
  rw[np];refine hb _ ?_;cases xs with
  |nil=>simp at hu
  |cons x xs=>subst e;simp[rdB,ab]⟩)
 (λw h b hb=>by
  cases xs with
  |nil=>cases hb
  |cons x xs=>
   cases hA:A with
   |none=>rw[hA]at hb;simp[rdB,ab]at hb
   |some ad=>
    rw[hA]at hb;simp only[rdB,ab,aK]at hb;subst hb;have:=cell_lt (h.at_ ad hA 0 x rfl);rwa[np]at this)
theorem Mg{w:World}{A:Option Addr}{n c:Nat}{xs:List Value}(h:(rdC A n c xs).ok w):RdV w 1 A n c xs:=h
section
variable {C:Cx} {Q:lK} {fr:Fr} {cs cs':List bL} {c c':bL} {ops:Array Oper} {rest:List Oper}
end
section
variable {C:Cx} {fr:Fr} {cs:List bL} {d:Option Tmp} {ty:TypeId} {pos:String} {af:Array Edge} {gd:Option (Nat×Bool)} {v:Value} {g:Bool} {x y:Operand} {T T':TypeId}
theorem Jj{ad r:Addr}(n:Nat){f:Nat}(ho:iD C.P T f=some n)(hx:Ev fr g x (.pointer (some ad)))(hr:ad.add n=r):OpY C ⟨d,.fieldAddr T x f,ty,pos,af,gd⟩ fr g Any (.pointer (some r)):=λA w hf _ hg=>by
 subst hr;unfold iD at ho;split at ho
 .rename_i fs hfs
  split at ho
  .rename_i fd hfd
   split at ho
   .rename_i i hi
    by_cases hz:i.size=0
    .simp[hz]at ho
    have hz':Nat.beq i.size 0=false:=by cases h':Nat.beq i.size 0 with|false=>rfl|true=>exact absurd (Nat.eq_of_beq_eq_true h') hz
    rw[hz']at ho;simp only[aa,aU]at ho;subst ho;simp[execOp,hx.eval hf hg,Instr.fieldAt,run_underlying hfs,hfd,Instr.sureAddr,fieldPlace,sizeOf,typeInfo,hi,hz]
   cases ho
  cases ho
 cases ho
theorem kX{w:World}{ad:Addr}{b:Nat}:∀{vs:List Value} {i:Nat},(∀j v,vs[j]? =some v->w.cell? (ad.add (b+i+j))=some v)->cells (ff (ad.add b) i vs) w
 |[],_,_=>λx hx=>by cases hx
 |u::vs,i,h=>λx hx=>by
  rcases aJ.1 hx with rfl|hx
  .show w.cell? ((ad.add b).add i)=some u;rw[qL];exact h 0 u rfl
  exact kX (vs:=vs) (i:=i+1) (λj v hj=>by
   have:=h (j+1) v (by simpa using hj);rwa[show b+i+(j+1)=b+(i+1)+j by omega]at this) x hx
theorem fv{w0:World}{sz n c b:Nat}{ad:Addr}{xs vs:List Value}(h:RdV w0 sz (some ad) n c xs)(hv:∀j v,vs[j]? =some v->xs[b+j]? =some v):∀w,Inv w0 [] cs w->cells (ff (ad.add b) 0 vs) w:=λw hi=>
 kX λj v hj=>by
  rw[Nat.add_zero];exact(h.MZ hi).at_ ad rfl (b+j) v (hv j v hj)
end
theorem fK{α:Type}{f:α->List Value}{sz:Nat}(hf:∀a,(f a).length=sz):∀{xs:List α} {k i:Nat} {a:α} {v:Value},xs[k]? =some a->(f a)[i]? =some v->(xs.flatMap f)[k*sz+i]? =some v
 |[],k,i,a,v,h,_=>by simp at h
 |x::xs,0,i,a,v,h,h2=>by
  simp only[List.getElem?_cons_zero,aU]at h;subst h;have:=(au.1 h2).1;rw[List.flatMap_cons,Nat.zero_mul,bE,bG this];exact h2
 |x::xs,k+1,i,a,v,h,h2=>by
  rw[List.flatMap_cons,bC (by rw[hf,Nat.succ_mul];omega),hf,show(k+1)*sz+i - sz=k*sz+i by rw[Nat.succ_mul];omega];exact fK hf (by simpa using h) h2
theorem xx{α:Type}{f:α->List Value}{sz:Nat}(hf:∀a,(f a).length=sz):∀xs:List α,(xs.flatMap f).length=xs.length*sz
 |[]=>by simp
 |x::xs=>by rw[List.flatMap_cons,ae,hf,xx hf xs,ak,Nat.succ_mul];omega
section
open Go.ChangeShapes Go.WideShapes
variable {P:Program} {w:World} {t:TypeId} {cs:List Value} {v:Value}
theorem Arg.rows{α:Type}{e:TypeId}{sz:Nat}{f:α->List Value}{Q:α->Prop}(ht:P.underlying t=some (.slice e))(hc:P.cellsOf e=sz)(hf:∀a,(f a).length=sz)(a0:α)
  (ho:∀es,Arg P w e es->∃a,es=f a/\Q a) (h:Arg P w t cs):
  ∃(A:Option Addr) (c:Nat) (xs:List α),cs=[.slice A xs.length c]/\RdV w sz A xs.length c (xs.flatMap f)/\(∀x,x∈xs->Q x)/\c*P.bytesOf e<=140737488351232:=by
 rcases h.slice ht with rfl|⟨a,len,cap,rfl,hl,hm,hb,hi⟩
 .exact⟨none,0,[],rfl,⟨by simp,aM _,by decide,λ_=>⟨rfl,rfl⟩,λ_ h=>by cases h⟩,(λx hx=>by cases hx),by simp⟩
 have each:∀i:Nat,∃x:α,i<cap->(∀j v,(f x)[j]? =some v->w.cell? (a.add (i*sz+j))=some v)/\Q x:=λi=>by
  by_cases hlt:i<cap
  .obtain⟨es,base,h1,h2⟩:=hi i hlt;obtain⟨x,rfl,hq⟩:=ho es h2;rw[hc]at h1;refine⟨x,λ_=>⟨λj v hj=>?_,hq⟩⟩;have hjl:=(au.1 hj).1;rw[hf]at hjl;have:=(World.cells?_some h1).2.2 j hjl;rw[Go.Ink.qL]at this;rw[this];exact hj
  exact⟨a0,λh=>absurd h hlt⟩
 obtain⟨g,hg⟩:=Classical.axiomOfChoice each;refine⟨some a,cap,(List.range len).map g,by simp,⟨by rw[xx hf],by simpa using hl,hm,(λh=>by cases h),?_⟩,?_,hb⟩
 .intro ad e j u hu;obtain rfl:a=ad:=by simpa using e
  have hj:=(au.1 hu).1;rw[xx hf,List.length_map,List.length_range]at hj;by_cases hsz:sz=0
  .subst hsz;simp at hj
  have hq:j/sz<len:=(Nat.div_lt_iff_lt_mul (Nat.pos_of_ne_zero hsz)).2 hj;have hjm:j/sz*sz+j%sz=j:=Nat.div_add_mod' j sz;have hx:((List.range len).map g)[j/sz]? =some (g (j/sz)):=by rw[bh,List.getElem?_range hq];rfl
  have hr:j%sz<(f (g (j/sz))).length:=by rw[hf];exact Nat.mod_lt _ (Nat.pos_of_ne_zero hsz)
  have h1:=fK hf hx (ai hr);rw[hjm]at h1;rw[h1]at hu;have h2:=(hg (j/sz) Wq1).1 (j%sz) _ (ai hr);rw[hjm]at h2;rw[h2,hu]
 intro x hx;simp only[aZ,List.mem_range]at hx;obtain⟨i,hi',rfl⟩:=hx;exact(hg i Wq1).2
theorem Bp.rows{α:Type}{e:TypeId}{sz:Nat}{f:α->List Value}{Q:α->Prop}(ht:P.underlying t=some (.slice e))(hc:P.cellsOf e=sz)(hf:∀a,(f a).length=sz)(a0:α)
  (ho:∀es,Arg P w e es->∃a,es=f a/\Q a) (h:Bp P w t v):
  ∃(A:Option Addr) (c:Nat) (xs:List α),v= .slice A xs.length c/\RdV w sz A xs.length c (xs.flatMap f)/\(∀x,x∈xs->Q x)/\c*P.bytesOf e<=140737488351232:=by
 obtain⟨⟨r,b,hk⟩,h⟩:=h;obtain⟨a,l,c,rfl⟩:=okWide_slice ht hk;obtain⟨A,c',xs,h1,h2⟩:=h.rows ht hc hf a0 ho;simp[Value.cells]at h1;obtain⟨rfl,rfl,rfl⟩:=h1;exact⟨_,_,_,rfl,h2⟩
end
section
variable {C:Cx} {fr:Fr} {d:Option Tmp} {ty:TypeId} {pos:String} {af:Array Edge} {gd:Option (Nat×Bool)} {g:Bool} {x y:Operand} {T T':TypeId}
theorem y_min{k:IntKind}{a b:Int}(hx:Ev fr g x (.int k a))(hy:Ev fr g y (.int k b)){r:Int}(hr:(if b<a then b else a)=r):OpY C ⟨d,.call {callee:= .builtin .min,args:= #[x,y],argTypes:= #[T,T']},ty,pos,af,gd⟩ fr g Any (.int k r):=λA w hf _ hg=>by
 subst hr;simp[execOp,resolve,invoke,builtin,hx.eval hf hg,hy.eval hf hg,Builtin.min_,Builtin.min2]
end
abbrev dp(cin:List bL):bL:=exC (α:=Unit) (bM cin) (λ_=>cin) Zrf (λ_=>True)
theorem rX{cin:List bL}{w:World}(h:(dp cin).ok w):∀c,c∈cin->c.ok w:=by
 obtain⟨_,_,_,h3⟩:=h;exact h3
theorem Inv.Nv{w0 w w':World}{S:List Nat}{cs cin rest:List bL}{c:bL}(h:Inv w0 S cs w)(hp:ja cin cs rest)(h2:Has rest c)(hk:dG (bM cin) w w'):c.ok w':=by
 have hc:=h.ok _ (hp.perm.symm.subset (List.mem_append_right _ h2.mem));refine c.loc w w' (λb hb=>hk.block b (c.lt w hc b hb) λhin=>?_) hc;have hn:=((hp.perm.flatMap_right bL.bs).nodup_iff).1 h.nodup;rw[List.flatMap_append]at hn;exact(List.nodup_append.1 hn).2.2 b hin b (dq.2 ⟨_,h2.mem,hb⟩) rfl
section
variable {C:Cx} {Q:lK} {fr:Fr} {cs r:List bL} {ops:Array Oper} {l:List Oper} {x:Code}
theorem EZ(cin:List bL)(hs:ja cin cs r)(h:WL C ops Q l fr (dp cin::r)):WL C ops Q l fr cs:=Bw () trivial hs h
end
section
variable {C:Cx} {fr:Fr} {cs:List bL} {d:Option Tmp} {ty:TypeId} {pos:String} {af:Array Edge} {gd:Option (Nat×Bool)} {x:Operand}
theorem F8{f:FuncId}{l:List Operand}{vs fs caps:List Value}{ats:Array TypeId}{a:Act}{w:World}(hf:p6 C.N fr a)(hx:ev fr x=some (.func (.func f) fs.toArray caps.toArray))(hl:evs fr l=some vs)(hc:∀args w,(callFunc f args).run C.P w= .ok (.enter f args) w):
  (execOp a.eval ⟨d,.call {callee:= .value x,args:=l.toArray,argTypes:=ats},ty,pos,af,gd⟩).run C.P w= .ok (.enter f (fs++vs++caps).toArray) w:=by
 have h1:=hf.ev hx;simp[execOp,resolve,invoke,Deferred.ofValue,h1,<-CB hf hl,hc]
end
theorem yk{w0:World}{S:List Nat}{cs:List bL}{e sz n c b:Nat}{ad:Addr}{xs vs:List Value}(hc:Has cs (slv e sz (some ad) n c xs))(hv:∀j v,vs[j]? =some v->xs[b+j]? =some v):∀w,Inv w0 S cs w->cells (ff (ad.add b) 0 vs) w:=λw hi=>
 kX λj v hj=>by
  rw[Nat.add_zero];exact(dk (hi.get hc)).at_ ad rfl (b+j) v (hv j v hj)
theorem j7{w0:World}{S:List Nat}{cs:List bL}{n c j:Nat}{ad:Addr}{xs:List Value}{v:Value}(h:∀w',dG S w0 w'->RdV w' 1 (some ad) n c xs)(hv:xs[j]? =some v):∀w,Inv w0 S cs w->cells [(ad.add (j*1),v)] w:=λw hi z hz=>by
 rw[aK]at hz;subst hz;rw[Nat.mul_one];exact(h w hi.Nb).at_ ad rfl j v hv
theorem iy{w:World}{e sz n c:Nat}{A:Option Addr}{xs:List Value}(h:(slv e sz A n c xs).ok w)(hn:0<n):∃b,A=some ⟨b,0,none⟩:=by
 rcases h.2 with⟨_,h'⟩|⟨g',cap',cur,h',_⟩
 .omega
 simp only[Value.slice.injEq]at h';exact⟨g',h'.1⟩
theorem BL{w0:World}{S:List Nat}{cs:List bL}{e sz n c j bb:Nat}{xs:List Value}{v:Value}(hc:Has cs (slv e sz (some ⟨bb,0,none⟩) n c xs))(hv:xs[j]? =some v):∀w,Inv w0 S cs w->cells [(⟨bb,j,none⟩,v)] w:=λw hi z hz=>by
 rw[aK]at hz;subst hz;have:=(hi.rd hc).at_ _ rfl j v hv;rw[Addr.add_lit,bE]at this;exact this
section
variable {C:Cx} {fr:Fr} {cs:List bL} {d:Option Nat} {T T':TypeId} {x y:Operand} {ty:TypeId} {pos:String} {af:Array Edge} {gd:Option (Nat×Bool)} {g:Bool} {v:Value}
theorem wD{bb o n c e sz:Nat}{xs:List Value}{mk:bL->List bL}(hT:∀w,(sizeOf T).run C.P w= .ok 1 w)(hx:ev fr x=some (.pointer (some ⟨bb,o,none⟩)))(hy:ev fr y=some v)(h1:v.oneCell'=true)(hu:At cs (slv e sz (some ⟨bb,0,none⟩) n c xs) mk)(ho:o<n*sz):
  OpT C ⟨d,.store T x y,ty,pos,af,gd⟩ fr cs true (λu cs'=>u=undef/\cs'=mk (slv e sz (some ⟨bb,0,none⟩) n c (xs.set o v))):=λa w hf hi next Q h=>by
 have hown:w.ownsRow 0 e sz (.slice (some ⟨bb,0,none⟩) n c) n xs:=hi.get hu.has;have hlen:=hown.1;have hc:w.cell? ⟨bb,o,none⟩=some (xs[o]'(by omega)):=by
  rw[hown.cellAt o Wq1];exact ai Wq1
 have hfz:w.frozen? ⟨bb,o,none⟩=false:=hown.frozenAt o;have hcs:v.cells= #[v]:=by cases v<;>first|rfl|cases h1
 have hr:(execOp a.eval ⟨d,.store T x y,ty,pos,af,gd⟩).run C.P w= .ok .skip (w.setCell ⟨bb,o,none⟩ v):=by
  simp[execOp,hf.ev hx,hf.ev hy,Instr.storeAt,Instr.sureAddr,storeVar,hT,hcs,storeCells,Addr.add_lit,run_store _ _ _ v _ h1,hc,hfz,stored]
 unfold Oper.wp;rw[hr];obtain⟨h2,h3⟩:=hown.stored o v;have hk:=dG.NF (show w.grownBy (w.setCell ⟨bb,o,none⟩ v) (Value.slice (some ⟨bb,0,none⟩) n c).ownBlock from h3);refine h _ _ _ ⟨rfl,rfl⟩ (hi.upd (hu _) hk (jU hk h2 λa ha=>?_)) (λe=>by cases e);obtain rfl:(⟨bb,0,none⟩:Addr)=a:=by simpa using ha
 left;simp[slv,bL.bs,ab]
end
section
variable {C:Cx} {fr:Fr} {cs:List bL} {d:Option Nat} {x y:Operand} {ty:TypeId} {pos:String} {af:Array Edge} {gd:Option (Nat×Bool)} {g:Bool} {v:Value}
theorem lL{f:FuncId}{l:List Operand}{vs:List Value}(hl:evs fr l=some vs):OpY C ⟨d,.makeFunc (.func f) #[] l.toArray,ty,pos,af,gd⟩ fr g Any (.func (.func f) #[] vs.toArray):=λA w hf _ hg=>by
 have h:=CB hf hl;simp[execOp,Instr.makeFunc,<-h]
theorem fR{f:FuncId}{l:List Operand}{vs fs caps:List Value}{ats:Array TypeId}{K:Value->List bL->Prop}(cin:List bL){rest:List bL}(hx:ev fr x=some (.func (.func f) fs.toArray caps.toArray))(hl:evs fr l=some vs)(hc:∀args w,(callFunc f args).run C.P w= .ok (.enter f args) w)
  (hp:ja cin cs rest) (h:∀w,Inv C.w0 C.S cs w->Inv w (bM cin) cin w->Ctr C.P f (fs++vs++caps) w cin K):
  OpT C ⟨d,.call {callee:= .value x,args:=l.toArray,argTypes:=ats},ty,pos,af,gd⟩ fr cs true (λv cs'=>∃cout,K v cout/\cs'=cout++rest):=λa w hf hinv next Q hn=>by
 have hin:Inv w (bM cin) cin w:=⟨dG.refl _ _,by
  have:=((hp.perm.flatMap_right bL.bs).nodup_iff).1 hinv.nodup;rw[show List.flatMap bL.bs (cin++rest)=bM cin++bM rest from gh _ _]at this;exact(List.nodup_append.1 this).1,λc hc=>hinv.ok c (hp.perm.mem_iff.2 (aS.2 (.inl hc))),λb hb=> .inl hb⟩
 unfold Oper.wp;rw[F8 hf hx hl hc];refine Calls.mono (h w hinv hin) λe w' hq=>?_
 obtain⟨v,cout,rfl,hk,hi⟩:=hq;exact hn _ _ _ ⟨cout,hk,rfl⟩ (hinv.step hp.perm (.refl _) hi.Nb hi) (λe=>by cases e)
end
structure PA where
 i:Nat
 d:Nat
 zs:List Value
 T:TypeId
def marks(listed:Array Bool)(js:List Nat):Array Bool:=js.foldl (λl i=>l.setIfInBounds i true) listed
theorem mR:∀(js:List Nat) (listed:Array Bool) (k:Nat),(marks listed js)[k]? =if k∈js then(listed[k]?).map (λ_=>true)else listed[k]?
 |[],listed,k=>by simp[marks]
 |i::js,listed,k=>by
  show(marks (listed.setIfInBounds i true) js)[k]? =_;rw[mR js];by_cases hk:i=k
  .subst hk;by_cases h2:i∈js
   .rw[if_pos h2,if_pos cE,Array.getElem?_setIfInBounds_self];split<;>rename_i h3
    .simp[h3]
    simp[h3]
   rw[if_neg h2,if_pos cE,Array.getElem?_setIfInBounds_self];split<;>rename_i h3
   .simp[h3]
   simp[h3]
  rw[Array.getElem?_setIfInBounds_ne hk];by_cases h2:k∈js
  .rw[if_pos h2,if_pos (bH _ h2)]
  rw[if_neg h2,if_neg (by simp[h2,Ne.symm hk])]
def PAok(C:Cx)(St:Dr)(ops:Array Oper)(p:PA):Prop:=
 ∃op ty pos af,ops[p.i]? =some ⟨some p.d,op,ty,pos,af,none⟩/\St.st p.i=false/\Nat.blt p.d C.N=true/\∀fr cs,OpT C ⟨some p.d,op,ty,pos,af,none⟩ fr cs false (λv cs'=>∃b,v= .pointer (some ⟨b,0,none⟩)/\cs'=cs++[row b p.zs p.T])
section
variable {C:Cx} {Q:lK} {fr:Fr} {cs:List bL} {ops:Array Oper} {St:Dr} {fuel:Nat} {listed:Array Bool} {pl:List PA}
structure PLok(C:Cx)(St:Dr)(ops:Array Oper)(pl:List PA)(listed:Array Bool)(fr:Fr):Prop where
 ok:∀p,p∈pl->PAok C St ops p
 fr:∀p,p∈pl->look fr p.d=none
 dn:(pl.map (·.d)).Nodup
 in_:(pl.map (·.i)).Nodup
 rd:∀p,p∈pl->p.i∈Region.ready .any ops listed
end
theorem PLok.of{C:Cx}{St:Dr}{ops:Array Oper}{pl:List PA}{listed:Array Bool}{fr:Fr}(ok:∀p,p∈pl->PAok C St ops p)(hfr:(pl.all λp=>(look fr p.d).isNone)=true)(hn:(pl.map (·.d)).Nodup/\(pl.map (·.i)).Nodup)
  (hrd:(pl.all λp=>(Region.ready .any ops listed).contains p.i)=true):PLok C St ops pl listed fr:=
 ⟨ok,λp hp=>by simpa using bo.1 hfr p hp,hn.1,hn.2,λp hp=>by simpa using bo.1 hrd p hp⟩
section
variable {C:Cx} {fr:Fr} {cs:List bL} {d:Option Tmp} {ty:TypeId} {pos:String} {af:Array Edge} {gd:Option (Nat×Bool)}
end
section
variable {C:Cx} {Q:lK} {fr:Fr} {cs:List bL} {ops:Array Oper} {d:Nat} {op:Op} {ty:TypeId} {pos:String} {af:Array Edge} {gd:Option (Nat×Bool)} {v:Value} {g:Bool} {St:Dr} {fuel:Nat} {listed:Array Bool}
theorem uX(i:Nat){l:List (Addr×Value)}(hi:ops[i]? =some ⟨some d,op,ty,pos,af,none⟩)(hs:Region.noSelect ops=true)(hfree:Region.free .any ops listed i=true)(hr:(Region.ready .any ops listed).contains i=true)
  (hy:OpY C ⟨some d,op,ty,pos,af,none⟩ fr true (cells l) v) (hm:∀x,x∈l->x∈St.l0) (hV:∀w,Inv C.w0 C.S cs w->cells St.l0 w) (hd:Nat.blt d C.N=true)
  (h:WA C St ops Q fuel (listed.setIfInBounds i true) ((d,v)::fr) cs):WA C St ops Q (fuel+1) listed fr cs:=λa w hf hi'=>
 jC (V:=cells St.l0) (λ_ _ hp h x hx=>hp _ _ (h x hx)) hi (Region.noSelect_spec hs) (λ_ _ _ h=>h) fuel listed a w (λj oj hj hne hun hno=>⟨Region.free_spec hi hfree j oj hj hne hun hno,.inr (.inr λ_ _ h=>h)⟩)
  (by simpa using hr) (jj (g:=true) gv (λa w hf hV hg=>hy a w hf (λx hx=>hV _ (hm x hx)) hg) hf) (hV w hi') (h _ w (hf.put (by simpa[Nat.blt_eq]using hd) _) hi')
theorem gx{bb:Nat}{xs:List Value}:∀x,x∈ff ⟨bb,0,none⟩ 0 xs->x∈sQ bb xs:=λx hx=>by
 obtain⟨j,h1,h2⟩:=ia hx;obtain⟨ad,v⟩:=x;dsimp only at h1 h2;have:=nD (bb:=bb) h1;rw[h2,Addr.add_lit,bE,bE];exact this
end
open Go.RowKit Go.ChangeShapes Go.WideShapes
theorem kj{P:Program}{w:World}{name:String}{g t e n:Nat}{k:IntKind}{Ni:List Int}{d:DataW Unit}(h:laidMetH P [(name,d)] w)(hp:laidMetH P [(name,d)] w=laidMet P [(name,d)] w)(hdv:d= .agg (Ni.map λx=> .lit (.int k x)))
  (hg:P.globalNamed name=some g) (ht:(P.globals[g]?).map (·.type)=some t) (hu:P.underlying t=some (.array n e)) (he:P.underlying e=some (.int k)) (hc:P.cellsOf e=1) (hn:Ni.length=n) (hm:n<=maxLen):RdV w 1 (some ⟨g,0,none⟩) n n (ints k Ni):=by
 rw[hp]at h;obtain⟨ps,⟨g0,t0,cs,f,p,q,hg0,ht0,hv0,hd0, -⟩, -, -⟩:=h;obtain rfl:=ay (hg.symm.trans hg0);obtain rfl:=ay (ht.symm.trans ht0);obtain⟨xs,m, -,hx, -,hxl,hxs⟩:=DataW.trod_array hu hd0;rw[hdv]at hx;simp only[aV,DataW.agg.injEq]at hx;have hcell:∀(i:Nat) (x:Int),Ni[i]? =some x->cs[i]? =some (.int k x):=λi x hi=>by
  have hil:i<n:=by rw[<-hn];exact(au.1 hi).1
  have h1:=hxs i hil;have hxi:xs[i]? =some (xs[i]'(by omega)):=ai Wq1;rw[hxi,hc,Nat.mul_one]at h1;obtain⟨z,hz1,hz2, -⟩:=DataW.trod_int he h1;have h2:(xs.map (·.1))[i]? =some (.lit (.int k x)):=by rw[<-hx.1,bh,hi];rfl
  rw[bh,hxi]at h2;simp only[Option.map_some,aU]at h2;rw[hz2]at h2;simp only[DataW.lit.injEq,Lit.int.injEq,true_and]at h2;subst h2;have h3:((cs.toList.drop i).take 1)[0]? =some (.int k z):=by rw[hz1];rfl
  rw[List.getElem?_take,if_pos Wq1,List.getElem?_drop]at h3;simpa using h3
 refine⟨by simp[ints,hn],aM _,hm,λe=>(by cases e),λad e j u hu=>?_⟩;obtain rfl:=(ay e).symm;unfold ints at hu;rw[bh]at hu;cases hj:Ni[j]? with
 |none=>rw[hj]at hu;cases hu
 |some x=>
  rw[hj]at hu;obtain rfl:=(ay hu).symm;unfold World.var? at hv0;rw[hg]at hv0;simp only[Option.bind_some]at hv0;rw[Addr.add_lit];unfold World.cell?;cases hh:w.heap[g]? with
  |none=>rw[hh]at hv0;cases hv0
  |some o=>
   rw[hh]at hv0;cases o with
   |cells c el fz=>
    obtain rfl:=ay hv0;simpa using hcell j x hj
   |_=>cases hv0
set_option maxRecDepth 100000 in
theorem lz{C:Checked}{os:Os}{f:FuncId}{fn:Func}{s:ChangeSpec}{ts:List TypeId}{tb:TypeId}{H:Type}{enc:TypeId×Value->H}{laid:List (String×DataW Unit)}
  (own:ownKnob C.prog.godebug=none) (started:os.Started) (noInit:C.prog.inits.idxOf? f=none) (hfn:C.prog.funcs[f]? =some fn)
  (witness:∃(w:World) (tape:Tape) (i:Input),w.os=os/\(w.forCall tape i).Shaped C.prog/\i.vars=[]/\Input.okWide C.prog (w.forCall tape i) .any w.heap.size f i/\
   ((s.pre enc C.prog fn [] false (w.forCall tape i).memory i.args/\laidMetH C.prog laid (w.forCall tape i).memory)/\sizedMet enc C.prog fn (OpenSpec.ofChange s) false (w.forCall tape i).memory i.args)/\({}:Assume).holds C.prog (lone (Frame.enter C.prog f i.args .normal) [] (w.forCall tape i)))
  (hts:fn.params=ts.toArray) (hres:fn.resultTypes= #[tb]) (hb:C.prog.underlying tb=some .bool) (hvars:s.vars=[])
  (hs:∀ds:List (DataW H),ds.length=ts.length->s.fn H (ds++[])={results:=[.lit (.bool true)],args:=ds})
  (hl:laidOutB C.prog=true) (hread:ts.all (λt=>C.prog.readableRec t&&decide (t<C.prog.types.size))=true)
  (walk:∀(W:World) (vs:List Value),Args C.prog W ts vs->laidMetH C.prog laid W->Calls C.prog f vs.toArray W λe W'=>e= .returned (.bool true)/\Below W.heap.size W W'):
  ReturnsInHanded {} C os f .any (λw args=>(s.pre enc C.prog fn [] false w args/\laidMetH C.prog laid w)/\sizedMet enc C.prog fn (OpenSpec.ofChange s) false w args) (s.post enc C.prog fn false true false false):=by
 refine returnsInHanded_of_change_and (C:=C) (X:=λw _=>laidMetH C.prog laid w) (λ_ _ _ hh h=>h.of_heap hh) own started noInit hfn witness ?_;intro W base args ds gs before hval hW hcnd hsz hX _;have hW':=hW;obtain⟨p,q,hA,hV,rfl,hfz,hnd⟩:=hW;obtain⟨rfl,rfl⟩:gs=[]/\q=[]:=by
  rw[hvars]at hV;cases gs with
  |nil=>exact⟨rfl,hV⟩
  |cons g gs=>exact absurd hV (by simp[DataW.TrodVars])
 have hA':DataW.TrodAll enc C.prog W 0 (λ_=>true) true ts args.toList ds p:=by
  rw[hts]at hA;exact hA
 have hsz':∀m∈DataW.weightsEach C.prog ts ds,m<=reachBytes:=by
  have e:fn.params.toList++s.plain.varTypes C.prog=ts:=by simp[hts,DataSpec.varTypes,ChangeSpec.plain,hvars]
  rw[e,az]at hsz;intro m hm;have:=bo.1 hsz m hm;simpa using this
 have hval':∀(j:Nat) t v,ts[j]? =some t->args.toList[j]? =some v->Value.okWide C.prog W .any base t v:=λj t v h1 h2=>hval j t v (by rw[hts];simpa using h1) (by simpa using h2)
 have hw:=walk W args.toList (IY hA' hval' hsz') hX;rw[Array.toArray_toList]at hw;refine hw.mono λe W' hh=>?_
 obtain⟨rfl,bel⟩:=hh;have hspec:=hs ds (ss hA');refine⟨_,rfl,ds,[],p++[],[],p,[],hW',?_,?_,?_,?_,λh=>by cases h⟩
 .rw[hspec,hres];exact trodAll_mk1 (shut_bool hb _)
 .rw[hspec,hts];exact oZ hl bel hread hA'
 .rw[hspec,hvars]
  rfl
 exact bel.frame _
end Go.Ink
