/- Lemmas. -/
import Derived.Test.YtakodpimdalajaaGreatDoorPaa
import Derived.Laws.StructEq
import Derived.ChangeKeysEq
import Derived.LaidMore
import Derived.OpenShut
import Derived.Handed
import Derived.Stop.Joined
set_option linter.unusedSimpArgs false
set_option linter.unusedVariables false
set_option maxRecDepth 100000
set_option maxHeartbeats 4000000
namespace Go.Ink
open Go.RowKit
theorem lS{w:World}{sz n c:Nat}{A:Option Addr}{xs:List Value}(h:RdV w sz A n c xs):∃w,RdV w sz A n c xs:=⟨w,h⟩
def EqV(P:Program)(k:Nat)(T:TypeId)(a b:Value):Prop:=∀w:World,(Op.equalIn k T a b).run P w= .ok true w
def EqF(P:Program)(k:Nat)(xs ys:Array Value)(fs:List Field):Prop:=∀w:World,(Op.eqFields k xs ys fs).run P w= .ok true w
section
variable {P:Program} {k:Nat} {T:TypeId}
theorem EqF.nil{xs ys:Array Value}:EqF P k xs ys []:=fun w=>rfl
theorem EqF.cons{xs ys:Array Value}{f:Field}{fs:List Field}{a b:Value}(hn:f.name≠ "_")(ha:∀w,(part f.type xs f.offset).run P w= .ok a w)(hb:∀w,(part f.type ys f.offset).run P w= .ok b w)(he:EqV P k f.type a b)(h:EqF P k xs ys fs):EqF P k xs ys (f::fs):=fun w=>by
 simp only[Op.eqFields,if_pos hn,Sem.run_bind,ha w,hb w,Result.andThen_ok,he w,Bool.not_true,Bool.false_eq_true,if_false]
 exact h w
theorem EqV.int{kd kd':IntKind}{a:Int}(h:P.underlying T=some (.int kd')):EqV P (k+1) T (.int kd a) (.int kd a):=fun w=>by
 rw[run_equalIn_int w k T kd kd' a a h,beq_self_eq_true]
theorem EqV.bool{a:Bool}(h:P.underlying T=some .bool):EqV P (k+1) T (.bool a) (.bool a):=fun w=>by
 rw[run_equalIn_bool' w k T a a h,beq_self_eq_true]
theorem EqV.struct{xs ys:Array Value}(h:P.underlying T=some (.struct (P.fieldsOf T)))(hp:P.stoodInHeld T=false)(hf:EqF P k xs ys (P.fieldsOf T).toList):EqV P (k+1) T (.agg xs) (.agg ys):=fun w=>by
 rw[run_equalIn_struct w k T xs ys h hp]
 exact hf w
end
section
variable {C:Cx} {fr:Fr} {d:Option Nat} {T T':TypeId} {x y:Operand} {ty:TypeId} {pos:String} {af:Array Edge} {gd:Option (Nat×Bool)} {g:Bool}
theorem y_eqlT{xs ys:Array Value}(hm:C.P.eqGuardType C.P.depth T=false)(he:EqV C.P 10000 T (.agg xs) (.agg ys))(hx:Ev fr g x (.agg xs))(hy:Ev fr g y (.agg ys)):OpY C ⟨d,.binOp .eql T x y T',ty,pos,af,gd⟩ fr g Any (.bool true):=fun A w hf _ hg=>by
 simp[execOp,hx.eval hf hg,hy.eval hf hg,run_eqGuard_agg w _ _ _ _ _ _ hm,run_eql_struct,he w,Result.andThen]
end
def sL:List Nat→Nat→Bool
 |[],_=>false
 |y::l,x=>Nat.beq y x||sL l x
theorem j9{x:Nat}:∀{l:List Nat},sL l x=true↔x∈l
 |[]=>by simp[sL]
 |y::l=>by
  simp only[sL,Bool.or_eq_true,aK,j9 (l:=l)]
  constructor
  ·rintro(h|h)
   ·exact .inl (bG h).symm
   exact .inr h
  rintro(rfl|h)
  ·exact .inl (Nat.beq_refl _)
  exact .inr h
structure Sk where
 i:Nat
 k:Nat
 d:List Nat
 l:List Nat
 w:List Nat
def nZ(ops:Array Oper)(p:Nat×Nat):Sk:=
 match ops[p.1]? with
 |some o=>⟨p.1,p.2,o.dst.toList,o.looksAt ops,(o.after.toList.filter (Region.binds .any)).map (·.on)⟩
 |none=>⟨p.1,9,[],[],[]⟩
def uk(x y:Sk):Bool:=x.d.all (fun d=> !sL y.l d&& !sL y.d d)&&y.d.all (fun d=> !sL x.l d)
def chk4(st:Nat→Bool)(x:Sk):List Sk→List Nat→Bool
 |[],_=>true
 |r::rest,B=>bif r.w.any (fun e=>Nat.beq e x.i||sL B e)then chk4 st x rest (r.i::B)else uk x r&& !st r.i&&chk4 st x rest B
def Fp(n:Nat)(st:Nat→Bool)(x:Sk)(rest:List Sk):Bool:=
 (x.w.all (fun e=>Nat.blt e n&& !Nat.beq e x.i&&rest.all (fun r=> !Nat.beq r.i e)))&&
 rest.all (fun r=> !Nat.beq r.i x.i&&
  match x.k with
  |0=>sL r.w x.i||uk x r
  |1=>sL r.w x.i||(uk x r&& !st r.i)
  |2=>r.w.any (fun e=>Nat.beq x.i e||rest.any (fun q=>Nat.beq q.i e))
  |4=>true
  |_=>false)&&
 (!Nat.beq x.k 4||chk4 st x rest [])
def Chk(n:Nat)(st:Nat→Bool):List Sk→Bool
 |[]=>true
 |x::rest=>Nat.beq x.k 3||(Fp n st x rest&&Chk n st rest)
structure Lst(n:Nat)(listed:Array Bool)(l:List Nat):Prop where
 size:listed.size=n
 iff:∀j,listed.getD j true=false↔j∈l
theorem Lst.step{n i:Nat}{listed:Array Bool}{l:List Nat}(h:Lst n listed (i::l))(hn:i∉l):Lst n (listed.setIfInBounds i true) l:=by
 refine⟨by simp[h.size],fun j=>?_⟩
 have hi:=(h.iff i).2 cJ
 by_cases e:i=j
 ·subst e
  simp only[aX,Array.getElem?_setIfInBounds_self]
  constructor
  ·intro h2
   split at h2<;>simp at h2
  exact fun h2=>absurd h2 hn
 have h1:=h.iff j
 simp only[aX,Array.getElem?_setIfInBounds_ne e]at h1⊢
 rw[h1]
 simp[Ne.symm e]
theorem Lst.set{n:Nat}{listed:Array Bool}{l l':List Nat}(h:Lst n listed l)(hs:∀j,j∈l↔j∈l'):Lst n listed l':=⟨h.size,fun j=>(h.iff j).trans (hs j)⟩
def SkOk(ops:Array Oper)(x:Sk)(o:Oper):Prop:=x.d=o.dst.toList∧x.l=o.looksAt ops∧x.w=(o.after.toList.filter (Region.binds .any)).map (·.on)
theorem kT{ops:Array Oper}{p:Nat×Nat}{o:Oper}(h:ops[p.1]? =some o):(nZ ops p).i=p.1∧(nZ ops p).k=p.2∧SkOk ops (nZ ops p) o:=by
 unfold nZ
 rw[h]
 exact⟨rfl,rfl,rfl,rfl,rfl⟩
theorem zm{ops:Array Oper}{p:Nat×Nat}:(nZ ops p).i=p.1:=by
 unfold nZ
 split<;>rfl
theorem mz{ops:Array Oper}{x y:Sk}{ox oy:Oper}(hx:SkOk ops x ox)(hy:SkOk ops y oy)(h:uk x y=true):ox.apart ops oy=true:=by
 obtain⟨hx1,hx2, -⟩:=hx
 obtain⟨hy1,hy2, -⟩:=hy
 simp only[uk,hx1,hx2,hy1,hy2,aB,bE,Bool.not_eq_true',Bool.eq_false_iff,ne_eq,j9]at h
 obtain⟨h1,h2⟩:=h
 unfold Oper.apart
 rw[aB]
 constructor
 ·cases hd:ox.dst with
  |none=>rfl
  |some d=>
   have:=h1 d (by simp[hd])
   simp only[aB,Bool.not_eq_true',List.contains_eq_mem,ah,bne_iff_ne,ne_eq]
   refine⟨this.1,fun e=>this.2 (by simp[e])⟩
 cases hd:oy.dst with
 |none=>rfl
 |some d=>
  have:=h2 d (by simp[hd])
  simpa using this
theorem ky{ops:Array Oper}{x:Sk}{o:Oper}(h:SkOk ops x o){e:Nat}:e∈x.w↔∃z,z∈o.after∧Region.binds .any z=true∧z.on=e:=by
 rw[h.2.2]
 simp only[bh,List.mem_filter,Array.mem_toList_iff]
 constructor
 ·rintro⟨z,⟨h1,h2⟩,h3⟩;exact⟨z,h1,h2,h3⟩
 rintro⟨z,h1,h2,h3⟩;exact⟨z,⟨h1,h2⟩,h3⟩
theorem sq{st:Nat→Bool}{x:Sk}:∀(rest:List Sk) (B0:List Nat),chk4 st x rest B0=true→∃B:List Nat,(∀b,b∈B0→b∈B)∧(∀r,r∈rest→r.i∉B→uk x r=true∧st r.i=false)∧(∀b,b∈B→b∈B0∨∃r,r∈rest∧r.i=b∧∃e,e∈r.w∧(e=x.i∨e∈B))
 |[],B0,_=>⟨B0,fun _ h=>h,(fun r h=>by cases h),fun b h=> .inl h⟩
 |r::rest,B0,h=>by
  unfold chk4 at h
  cases hw:r.w.any (fun e=>Nat.beq e x.i||sL B0 e)with
  |true=>
   rw[hw,ac]at h
   obtain⟨B,h1,h2,h3⟩:=sq rest _ h
   obtain⟨e,he,hx⟩:=List.any_eq_true.1 hw
   refine⟨B,fun b hb=>h1 b (bC _ hb),fun q hq hn=>?_,fun b hb=>?_⟩
   ·rcases aK.1 hq with rfl|hq
    ·exact absurd (h1 _ cJ) hn
    exact h2 q hq hn
   rcases h3 b hb with h4|⟨q,hq,h5⟩
   ·rcases aK.1 h4 with rfl|h4
    ·refine .inr ⟨r,by simp,rfl,e,he,?_⟩
     simp only[Bool.or_eq_true,j9]at hx
     rcases hx with hx|hx
     ·exact .inl (bG hx)
     exact .inr (h1 e (bC _ hx))
    exact .inl h4
   exact .inr ⟨q,bC _ hq,h5⟩
  |false=>
   rw[hw,aa,aB,aB,Bool.not_eq_true']at h
   obtain⟨B,h1,h2,h3⟩:=sq rest _ h.2
   refine⟨B,h1,fun q hq hn=>?_,fun b hb=>?_⟩
   ·rcases aK.1 hq with rfl|hq
    ·exact h.1
    exact h2 q hq hn
   rcases h3 b hb with h4|⟨q,hq,h5⟩
   ·exact .inl h4
   exact .inr ⟨q,bC _ hq,h5⟩
section
variable {P:Program} {ops:Array Oper} {Q:kM} {md:Region.Mode} {St:Dr}
theorem za{listed:Array Bool}{i:Nat}(h0:listed.getD i true=false):¬(listed.getD i false=true):=fun h1=>by
 rcases Nat.lt_or_ge i listed.size with h'|h'
 ·simp[h']at h0 h1;rw[h0]at h1;cases h1
 simp[Array.getElem?_eq_none h']at h1
theorem uz{i:Nat}{oi:Oper}{v:Value}{V:World→Prop}(B:List Nat)(hV:∀w w',uo w w'→V w→V w')(hi:ops[i]? =some oi)(hsel:∀(j:Nat) (o:Oper) cs b,ops[j]? =some o→o.op≠ .select cs b)
  (hQ:∀c a w,Q (.panic c) (a.put oi.dst v) w→Q (.panic c) a w):
  ∀(fuel:Nat) (listed:Array Bool) (a:Act) (w:World),
   (∀b,b∈B→listed.getD b true=false∧∀ob,ops[b]? =some ob→∃e∈ob.after,Region.binds md e=true∧(e.on=i∨e.on∈B))→
   (∀j oj,ops[j]? =some oj→j≠i→listed.getD j true=false→j∉B→oi.apart ops oj=true∧St.st j=false)→
   i∈Region.ready md ops listed→YieldsIf P ops V oi v a→V w→
   pM P md ops Q St fuel (listed.setIfInBounds i true) (a.put oi.dst v) w→pM P md ops Q St (fuel+1) listed a w:=by
 intro fuel
 induction fuel with
 |zero=>
  intro listed a w _ _ hr hy hS H
  refine⟨fun h=>(by rw[h]at hr;cases hr),fun j hj=>?_⟩
  by_cases hji:j=i
  ·subst hji;exact hy.wpOp hi hS ⟨⟨fun _ _ _ h=>h,fun h=>h⟩,H⟩
  have:=ready_mono hj hji
  rw[H.1]at this
  cases this
 |succ fuel ih=>
  intro listed a w hB hfree hr hy hS H
  refine⟨fun h=>(by rw[h]at hr;cases hr),fun j hj=>?_⟩
  by_cases hji:j=i
  ·subst hji;exact hy.wpOp hi hS ⟨⟨fun _ _ _ h=>h,fun h=>h⟩,H⟩
  have h1:=H.2 j (ready_mono hj hji)
  obtain⟨hjun,oj,hoj,hall⟩:=mem_ready.1 hj
  have hjB:j∉B:=fun hm=>by
   obtain⟨e,he,hb,hx⟩:=(hB j hm).2 oj hoj
   have h2:=hall e he hb
   rcases hx with hx|hx
   ·rw[hx]at h2;exact za (mem_ready.1 hr).1 h2
   exact za (hB _ hx).1 h2
  obtain⟨hap,hst⟩:=hfree j oj hoj hji hjun hjB
  have h2:=wpOp_putIf hoj hap (fun cs b=>hsel i oi cs b hi) (fun cs b=>hsel j oj cs b hoj) hQ hy h1
  have hB':∀b,b∈B→(listed.setIfInBounds j true).getD b true=false∧∀ob,ops[b]? =some ob→∃e∈ob.after,Region.binds md e=true∧(e.on=i∨e.on∈B):=fun b hb=>by
   refine⟨?_,(hB b hb).2⟩
   have hne:¬j=b:=fun e=>hjB (by rw[e];exact hb)
   rw[getD_set_ne true hne]
   exact(hB b hb).1
  have hfree':∀k ok,ops[k]? =some ok→k≠i→(listed.setIfInBounds j true).getD k true=false→k∉B→oi.apart ops ok=true∧St.st k=false:=fun k ok hk hki hun hno=>by
   refine hfree k ok hk hki ?_ hno
   by_cases hjk:j=k
   ·subst hjk;exact hjun
   rw[getD_set_ne true hjk]at hun;exact hun
  refine wpOp_mono (fun a' w' h3=>⟨h3.2.1,ih (listed.setIfInBounds j true) a' w' hB' hfree' (ready_mono hr (Ne.symm hji)) h3.1 (hV _ _ (h3.2.1.1 hst) hS) ?_⟩) h2
  rw[Array.setIfInBounds_comm _ _ hji]
  exact h3.2.2
end
section
variable {ops:Array Oper} {st:Nat→Bool} {i k:Nat} {s:List (Nat×Nat)} {listed:Array Bool} {oi:Oper}
theorem mO{j:Nat}(h:j∈s.map (·.1)):∃q,q∈s.map (nZ ops)∧q.i=j∧∀o,ops[j]? =some o→SkOk ops q o:=by
 obtain⟨p,hp,rfl⟩:=bh.1 h
 exact⟨nZ ops p,bh.2 ⟨p,hp,rfl⟩,zm,fun o ho=>(kT ho).2.2⟩
theorem zl{q:Sk}(h:q∈s.map (nZ ops)):q.i∈s.map (·.1):=by
 obtain⟨p,hp,rfl⟩:=bh.1 h
 rw[zm]
 exact bh.2 ⟨p,hp,rfl⟩
theorem so(hi:ops[i]? =some oi)(hL:Lst ops.size listed (((i,k)::s).map (·.1)))(hc:Fp ops.size st (nZ ops (i,k)) (s.map (nZ ops))=true):i∈Region.ready .any ops listed:=by
 obtain⟨e1, -,hk⟩:=kT (p:=(i,k)) hi
 have e1:(nZ ops (i,k)).i=i:=e1
 simp only[Fp,aB,bE]at hc
 rw[mem_ready]
 refine⟨(hL.iff i).2 cJ,oi,hi,fun e he hb=>?_⟩
 obtain⟨⟨h1,h2⟩,h3⟩:=hc.1.1 e.on ((ky hk).2 ⟨e,he,hb,rfl⟩)
 have hlt:e.on<ops.size:=by simpa[Nat.blt_eq]using h1
 have hne:e.on≠i:=by
  intro h
  rw[e1,h]at h2
  simp at h2
 cases hg:listed.getD e.on true with
 |true=>
  simp only[aX]at hg⊢
  cases hq:listed[e.on]? with
  |none=>
   rw[Array.getElem?_eq_none_iff,hL.size]at hq
   omega
  |some b=>rw[hq]at hg;exact hg
 |false=>
  have:=(hL.iff e.on).1 hg
  simp only[List.map_cons,aK,hne,false_or]at this
  obtain⟨q,hq,e3, -⟩:=mO (ops:=ops) this
  have:=h3 q hq
  rw[e3]at this
  simp at this
theorem yO(hc:Fp ops.size st (nZ ops (i,k)) (s.map (nZ ops))=true):i∉s.map (·.1):=fun h=>by
 simp only[Fp,aB,bE]at hc
 obtain⟨q,hq,e3, -⟩:=mO (ops:=ops) h
 have:=(hc.1.2 q hq).1
 rw[zm,e3]at this
 simp at this
theorem Iu(hi:ops[i]? =some oi)(hL:Lst ops.size listed (((i,k)::s).map (·.1)))(hc:Fp ops.size st (nZ ops (i,k)) (s.map (nZ ops))=true)(hk:k=0∨k=1)(j:Nat)(oj:Oper)
  (hj:ops[j]? =some oj) (hne:j≠i) (hun:listed.getD j true=false) (hno:∀e∈oj.after,Region.binds .any e=true→e.on≠i):oi.apart ops oj=true∧(k=1→st j=false):=by
 have hjm:=(hL.iff j).1 hun
 simp only[List.map_cons,aK,hne,false_or]at hjm
 obtain⟨q,hq,e3,e4⟩:=mO (ops:=ops) hjm
 have hq4:=e4 oj hj
 obtain⟨e1,e2,hkx⟩:=kT (p:=(i,k)) hi
 simp only[Fp,aB,bE]at hc
 have h1:=(hc.1.2 q hq).2
 rw[e2,e1]at h1
 have hw:sL q.w i=false:=by
  cases hm:sL q.w i with
  |false=>rfl
  |true=>
   obtain⟨z,z1,z2,z3⟩:=(ky hq4).1 (j9.1 hm)
   exact absurd z3 (hno z z1 z2)
 rcases hk with rfl|rfl
 ·simp only[hw,Bool.false_or]at h1
  exact⟨mz hkx hq4 h1,fun h=>by cases h⟩
 simp only[hw,Bool.false_or,aB,Bool.not_eq_true']at h1
 exact⟨mz hkx hq4 h1.1,fun _=>e3▸h1.2⟩
theorem It(hi:ops[i]? =some oi)(hL:Lst ops.size listed (((i,2)::s).map (·.1)))(hc:Fp ops.size st (nZ ops (i,2)) (s.map (nZ ops))=true)(j:Nat)(hj:j∈Region.ready .any ops listed):j=i:=by
 obtain⟨hun,oj,hoj,hall⟩:=mem_ready.1 hj
 have hjm:=(hL.iff j).1 hun
 simp only[List.map_cons,aK]at hjm
 rcases hjm with h|hjm
 ·exact h
 exfalso
 obtain⟨q,hq,e3,e4⟩:=mO (ops:=ops) hjm
 obtain⟨e1,e2,hkx⟩:=kT (p:=(i,2)) hi
 simp only[Fp,aB,bE]at hc
 have h1:=(hc.1.2 q hq).2
 rw[e2,e1]at h1
 obtain⟨e,he,h2⟩:=List.any_eq_true.1 h1
 obtain⟨z,z1,z2,z3⟩:=(ky (e4 oj hoj)).1 he
 have hz:=hall z z1 z2
 rw[z3]at hz
 have hin:e∈((i,2)::s).map (·.1):=by
  simp only[Bool.or_eq_true,List.any_eq_true]at h2
  rcases h2 with h2|⟨q2,hq2,h2⟩
  ·simp[bG h2]
  have:=zl hq2
  rw[bG h2]at this
  simp only[List.map_cons,aK]
  exact .inr this
 have hf:=(hL.iff e).2 hin
 simp only[aX]at hz hf
 cases hb:listed[e]? with
 |none=>rw[hb]at hz;cases hz
 |some b=>rw[hb]at hz hf;simp only[Option.getD_some]at hz hf;rw[hz]at hf;cases hf
end
def WS(C:Cx)(St:Dr)(ops:Array Oper)(Q:kM)(s:List (Nat×Nat))(fr:Fr)(cs:List bJ):Prop:=
 ∀fuel listed,s.length≤fuel→Lst ops.size listed (s.map (·.1))→Chk ops.size St.st (s.map (nZ ops))=true→Region.noSelect ops=true→WA C St ops Q fuel listed fr cs
def WSI(C:Cx)(St:Dr)(ops:Array Oper)(Q:kM)(i:Nat)(s:List (Nat×Nat))(fr:Fr)(cs:List bJ):Prop:=
 ∀fuel listed,s.length≤fuel→Lst ops.size (listed.setIfInBounds i true) (s.map (·.1))→Chk ops.size St.st (s.map (nZ ops))=true→Region.noSelect ops=true→WI C St ops Q fuel listed i fr cs
section
variable {C:Cx} {Q:kM} {fr:Fr} {cs:List bJ} {ops:Array Oper} {d:Nat} {op:Op} {ty:TypeId} {pos:String} {af:Array Edge} {gd:Option (Nat×Bool)} {V:World→Prop} {v:Value} {g:Bool}
 {St:Dr} {i:Nat} {s:List (Nat×Nat)}
def Sched(ops:Array Oper)(st:Nat→Bool)(s:List (Nat×Nat)):Bool:=
 Region.noSelect ops&&Nat.ble s.length ops.size&&(List.range ops.size).all (fun j=>sL (s.map (·.1)) j)&&s.all (fun p=>Nat.blt p.1 ops.size)&&Chk ops.size st (s.map (nZ ops))
theorem jk{id:Nat}{l:List Oper}(St:Dr)(s:List (Nat×Nat))(hm:C.P.follows .mixedOrders=true)(hc:Sched l.toArray St.st s=true)(h:WS C St l.toArray Q s fr cs):WC C (.region id l.toArray true) Q fr cs:=by
 simp only[Sched,aB,bE,List.mem_range,j9,Nat.blt_eq,Nat.ble_eq]at hc
 obtain⟨⟨⟨⟨h1,h2⟩,h3⟩,h4⟩,h5⟩:=hc
 refine bR St hm (h _ _ (by simpa using h2) ⟨by simp,fun j=>?_⟩ h5 h1)
 constructor
 ·intro hj
  refine h3 j ?_
  rcases Nat.lt_or_ge j l.length with hlt|hge
  ·simpa using hlt
  rw[aX,Array.getElem?_eq_none (by simpa using hge)]at hj
  cases hj
 intro hj
 obtain⟨p,hp,rfl⟩:=bh.1 hj
 have:=h4 p hp
 have:p.1<l.length:=by simpa using this
 simp[aX,this]
theorem eP(h:QOk C Q .normal fr cs):WS C St ops Q [] fr cs:=fun fuel listed _ hL _ _=>qM (by
 refine List.eq_nil_iff_forall_not_mem.2 fun j hj=>?_
 have:=(hL.iff j).1 (mem_ready.1 hj).1
 cases this) h
theorem vw{x:Sk}{rest:List Sk}{n:Nat}{st:Nat→Bool}(h:Chk n st (x::rest)=true)(hk:x.k≠3):Fp n st x rest=true∧Chk n st rest=true:=by
 simp only[Chk,Bool.or_eq_true,aB]at h
 rcases h with h|h
 ·exact absurd (bG h) hk
 exact h
theorem yY{k:Nat}(hk:k=0∨k=1)(hV:∀w w',uo w w'→V w→V w')(hi:ops[i]? =some ⟨some d,op,ty,pos,af,gd⟩)(hg:bP ops fr ⟨some d,op,ty,pos,af,gd⟩ g)(hy:OpY C ⟨some d,op,ty,pos,af,gd⟩ fr g V v)
  (hcl:(∀w,V w)∨k=1∨(∀w w',(cells St.l0 w→cells St.l0 w')→V w→V w')) (hW:∀w,Inv C.w0 C.S cs w→V w) (hd:Nat.blt d C.N=true)
  (h:WS C St ops Q s ((d,bif g then v else undef)::fr) cs):WS C St ops Q ((i,k)::s) fr cs:=fun fuel listed hf hL hc hn=>by
 obtain⟨e1,e2,e3⟩:=kT (p:=(i,k)) hi
 have hk3:(nZ ops (i,k)).k≠3:=by rw[e2];rcases hk with rfl|rfl;exact(by decide:(0:Nat)≠3);exact(by decide:(1:Nat)≠3)
 obtain⟨c1,c2⟩:=vw hc hk3
 have hL2:=hL.step (yO c1)
 obtain⟨fuel,rfl⟩:∃m,fuel=m+1:=⟨fuel - 1,by simp at hf;omega⟩
 have h2:=h fuel _ (by simpa using hf) hL2 c2 hn
 exact fun a w hfr hi'=>i5 (V:=V) hV hi (Region.noSelect_spec hn) (fun _ _ _ h=>h) fuel listed a w
  (fun j oj hj hne hun hno=>by
   have h3:=Iu hi hL c1 hk j oj hj hne hun hno
   refine⟨h3.1,?_⟩
   rcases hcl with h|h|h
   ·exact .inl h
   ·exact .inr (.inl (h3.2 h))
   exact .inr (.inr h))
  (so hi hL c1) (iP hg hy hfr) (hW w hi') (h2 _ w (hfr.put (by simpa[Nat.blt_eq]using hd) _) hi')
theorem ws_y(hi:ops[i]? =some ⟨some d,op,ty,pos,af,gd⟩)(hg:bP ops fr ⟨some d,op,ty,pos,af,gd⟩ g)(hy:OpY C ⟨some d,op,ty,pos,af,gd⟩ fr g Any v)(hd:Nat.blt d C.N=true)
  (h:WS C St ops Q s ((d,bif g then v else undef)::fr) cs):WS C St ops Q ((i,0)::s) fr cs:=
 yY (.inl rfl) (fun _ _ _ h=>h) hi hg hy (.inl fun _=>trivial) (fun _ _=>trivial) hd h
theorem cT(hi:ops[i]? =some ⟨some d,op,ty,pos,af,none⟩)(hy:OpY C ⟨some d,op,ty,pos,af,none⟩ fr true Any v)(hd:Nat.blt d C.N=true)
  (h:WS C St ops Q s ((d,v)::fr) cs):WS C St ops Q ((i,0)::s) fr cs:=ws_y hi fy hy hd h
theorem ws_l{l:List (Addr×Value)}(hi:ops[i]? =some ⟨some d,op,ty,pos,af,gd⟩)(hg:bP ops fr ⟨some d,op,ty,pos,af,gd⟩ g)(hy:OpY C ⟨some d,op,ty,pos,af,gd⟩ fr g (cells l) v)(hV:∀w,Inv C.w0 C.S cs w→cells l w)(hd:Nat.blt d C.N=true)
  (h:WS C St ops Q s ((d,bif g then v else undef)::fr) cs):WS C St ops Q ((i,1)::s) fr cs:=
 yY (.inr rfl) (fun _ _ hp h x hx=>hp _ _ (h x hx)) hi hg hy (.inr (.inl rfl)) hV hd h
theorem uy{l:List (Addr×Value)}(hi:ops[i]? =some ⟨some d,op,ty,pos,af,none⟩)(hy:OpY C ⟨some d,op,ty,pos,af,none⟩ fr true (cells l) v)(hV:∀w,Inv C.w0 C.S cs w→cells l w)(hd:Nat.blt d C.N=true)
  (h:WS C St ops Q s ((d,v)::fr) cs):WS C St ops Q ((i,1)::s) fr cs:=ws_l hi fy hy hV hd h
theorem mB{T:TypeId}{x:Operand}{bb t:Nat}{xs:List Value}(hi:ops[i]? =some ⟨some d,.load T x,ty,pos,af,none⟩)(hc:Has cs (row bb xs t))(hT:∀w,(isAgg T).run C.P w= .ok true w)(hs:∀w,(sizeOf T).run C.P w= .ok xs.length w)(hx:Ev fr true x (.pointer (some ⟨bb,0,none⟩)))(hd:Nat.blt d C.N=true)
  (h:WS C St ops Q s ((d,.agg xs.toArray)::fr) cs):WS C St ops Q ((i,1)::s) fr cs:=uy hi (cn hT hs hx) (rN hc) hd h
theorem ws_l4{l:List (Addr×Value)}(hi:ops[i]? =some ⟨some d,op,ty,pos,af,gd⟩)(hg:bP ops fr ⟨some d,op,ty,pos,af,gd⟩ g)(hy:OpY C ⟨some d,op,ty,pos,af,gd⟩ fr g (cells l) v)(hV:∀w,Inv C.w0 C.S cs w→cells l w)(hd:Nat.blt d C.N=true)
  (h:WS C St ops Q s ((d,bif g then v else undef)::fr) cs):WS C St ops Q ((i,4)::s) fr cs:=fun fuel listed hf hL hc hn=>by
 obtain⟨e1,e2,e3⟩:=kT (p:=(i,4)) hi
 have hk3:(nZ ops (i,4)).k≠3:=by rw[e2];exact(by decide:(4:Nat)≠3)
 obtain⟨c1,c2⟩:=vw hc hk3
 have hnew:=yO c1
 have hL2:=hL.step hnew
 have h4:chk4 St.st (nZ ops (i,4)) (s.map (nZ ops)) []=true:=by
  have c3:=c1
  simp only[Fp,aB,e2]at c3
  simpa using c3.2
 obtain⟨B, -,b2,b3⟩:=sq _ _ h4
 obtain⟨fuel,rfl⟩:∃m,fuel=m+1:=⟨fuel - 1,by simp at hf;omega⟩
 have h2:=h fuel _ (by simpa using hf) hL2 c2 hn
 have hin:∀b,b∈s.map (·.1)→listed.getD b true=false:=fun b hb=>(hL.iff b).2 (by simp only[List.map_cons,aK];exact .inr hb)
 exact fun a w hfr hi'=>uz (V:=cells l) B (fun _ _ hp h x hx=>hp _ _ (h x hx)) hi (Region.noSelect_spec hn) (fun _ _ _ h=>h) fuel listed a w
  (fun b hb=>by
   rcases b3 b hb with h5|⟨r,hr,rfl,e,he,hx⟩
   ·cases h5
   obtain⟨p,hp,rfl⟩:=bh.1 hr
   refine⟨hin _ (zl (bh.2 ⟨p,hp,rfl⟩)),fun ob hob=>?_⟩
   rw[zm]at hob
   obtain⟨z,z1,z2,z3⟩:=(ky (kT hob).2.2).1 he
   refine⟨z,z1,z2,?_⟩
   rw[z3]
   rcases hx with hx|hx
   ·exact .inl (hx.trans e1)
   exact .inr hx)
  (fun j oj hj hne hun hno=>by
   have hjm:=(hL.iff j).1 hun
   simp only[List.map_cons,aK,hne,false_or]at hjm
   obtain⟨q,hq,q3,q4⟩:=mO (ops:=ops) hjm
   have h5:=b2 q hq (by rw[q3];exact hno)
   exact⟨mz e3 (q4 oj hj) h5.1,q3▸h5.2⟩)
  (so hi hL c1) (iP hg hy hfr) (hV w hi') (h2 _ w (hfr.put (by simpa[Nat.blt_eq]using hd) _) hi')
theorem jr{l:List (Addr×Value)}(hi:ops[i]? =some ⟨some d,op,ty,pos,af,none⟩)(hy:OpY C ⟨some d,op,ty,pos,af,none⟩ fr true (cells l) v)(hV:∀w,Inv C.w0 C.S cs w→cells l w)(hd:Nat.blt d C.N=true)
  (h:WS C St ops Q s ((d,v)::fr) cs):WS C St ops Q ((i,4)::s) fr cs:=ws_l4 hi fy hy hV hd h
theorem jE{T:TypeId}{x:Operand}{bb t:Nat}{xs:List Value}(hi:ops[i]? =some ⟨some d,.load T x,ty,pos,af,none⟩)(hc:Has cs (row bb xs t))(hT:∀w,(isAgg T).run C.P w= .ok true w)(hs:∀w,(sizeOf T).run C.P w= .ok xs.length w)(hx:Ev fr true x (.pointer (some ⟨bb,0,none⟩)))(hd:Nat.blt d C.N=true)
  (h:WS C St ops Q s ((d,.agg xs.toArray)::fr) cs):WS C St ops Q ((i,4)::s) fr cs:=jr hi (cn hT hs hx) (rN hc) hd h
theorem gM{oi:Oper}(hi:ops[i]? =some oi)(h:WSI C St ops Q i s fr cs):WS C St ops Q ((i,2)::s) fr cs:=fun fuel listed hf hL hc hn=>by
 obtain⟨e1,e2,e3⟩:=kT (p:=(i,2)) hi
 have hk3:(nZ ops (i,2)).k≠3:=by rw[e2];exact(by decide:(2:Nat)≠3)
 obtain⟨c1,c2⟩:=vw hc hk3
 have hr:=so hi hL c1
 obtain⟨fuel,rfl⟩:∃m,fuel=m+1:=⟨fuel - 1,by simp at hf;omega⟩
 have h2:=h fuel listed (by simpa using hf) (hL.step (yO c1)) c2 hn
 exact fun a w hfr hi'=>⟨fun h0=>(by rw[h0]at hr;cases hr),fun j hj=>by
  have:=It hi hL c1 j hj
  subst this
  exact h2 a w hfr hi'⟩
inductive Ways (C:Cx) (St:Dr) (ops:Array Oper) (Q:kM) (fr:Fr) (cs:List bJ):List (Nat×List (Nat×Nat))→Prop
 |nil:Ways C St ops Q fr cs []
 |cons {i:Nat} {s:List (Nat×Nat)} {L:List (Nat×List (Nat×Nat))} (h:WSI C St ops Q i s fr cs) (t:Ways C St ops Q fr cs L):Ways C St ops Q fr cs ((i,s)::L)
theorem Ways.get{L:List (Nat×List (Nat×Nat))}(h:Ways C St ops Q fr cs L):∀p,p∈L→WSI C St ops Q p.1 p.2 fr cs:=by
 induction h with
 |nil=>exact fun p hp=>by cases hp
 |cons h _ ih=>
  intro p hp
  rcases aK.1 hp with rfl|hp
  ·exact h
  exact ih p hp
def Forks(ops:Array Oper)(st:Nat→Bool)(s:List (Nat×Nat))(L:List (Nat×List (Nat×Nat))):Bool:=
 (s.map (nZ ops)).all (fun q=>sL (L.map (·.1)) q.i||q.w.any (fun e=>sL (s.map (·.1)) e))&&
 L.all (fun p=>Nat.blt p.2.length s.length&&sL (s.map (·.1)) p.1&& !sL (p.2.map (·.1)) p.1&&s.all (fun q=>Nat.beq q.1 p.1||sL (p.2.map (·.1)) q.1)&&p.2.all (fun q=>sL (s.map (·.1)) q.1)&&Chk ops.size st (p.2.map (nZ ops)))&&
 !L.isEmpty&&(L.all fun p=>((nZ ops (p.1,0)).w.all fun e=>Nat.blt e ops.size&& !sL (s.map (·.1)) e)&&Nat.blt p.1 ops.size)
theorem FZ(L:List (Nat×List (Nat×Nat)))(hc:Forks ops St.st s L=true)(h:Ways C St ops Q fr cs L):WS C St ops Q s fr cs:=fun fuel listed hf hL _ hn=>by
 simp only[Forks,aB,bE,j9,Nat.blt_eq,Bool.or_eq_true,List.any_eq_true,Bool.not_eq_true']at hc
 obtain⟨⟨⟨c1,c2⟩,c3⟩,c4⟩:=hc
 have hs0:s≠[]:=by
  intro e
  cases L with
  |nil=>cases c3
  |cons p L=>have:=(c2 p cJ).1.1.1.1.1;rw[e]at this;simp at this
 obtain⟨fuel,rfl⟩:∃m,fuel=m+1:=⟨fuel - 1,by have:=List.length_pos_iff.2 hs0;omega⟩
 have hready:∀j,j∈Region.ready .any ops listed→j∈L.map (·.1):=fun j hj=>by
  obtain⟨hun,oj,hoj,hall⟩:=mem_ready.1 hj
  obtain⟨q,hq,e3,e4⟩:=mO (ops:=ops) ((hL.iff j).1 hun)
  rcases c1 q hq with h1|⟨e,he,h1⟩
  ·rwa[e3]at h1
  obtain⟨z,z1,z2,z3⟩:=(ky (e4 oj hoj)).1 he
  have hz:=hall z z1 z2
  have hf:=(hL.iff e).2 h1
  rw[z3]at hz
  simp only[aX]at hz hf
  cases hb:listed[e]? with
  |none=>rw[hb]at hz;cases hz
  |some b=>rw[hb]at hz hf;simp only[Option.getD_some]at hz hf;rw[hz]at hf;cases hf
 have hne:Region.ready .any ops listed≠[]:=by
  cases L with
  |nil=>cases c3
  |cons p L=>
   obtain⟨c5,c6⟩:=c4 p cJ
   obtain⟨⟨⟨⟨⟨d1,d2⟩,d3⟩,d4⟩,d5⟩,d6⟩:=c2 p cJ
   obtain⟨o,ho⟩:∃o,ops[p.1]? =some o:=⟨_,Array.getElem?_eq_getElem c6⟩
   intro h0
   have:p.1∈Region.ready .any ops listed:=mem_ready.2 ⟨(hL.iff _).2 d2,o,ho,fun e he hb=>by
    obtain⟨-, -,hk⟩:=kT (p:=(p.1,0)) ho
    obtain⟨f1,f2⟩:=c5 e.on ((ky hk).2 ⟨e,he,hb,rfl⟩)
    have f3:e.on∉s.map (·.1):=fun hm=>by rw[j9.2 hm]at f2;cases f2
    cases hg:listed.getD e.on true with
    |true=>
     simp only[aX]at hg⊢
     cases hq:listed[e.on]? with
     |none=>
      rw[Array.getElem?_eq_none_iff,hL.size]at hq
      omega
     |some b=>rw[hq]at hg;exact hg
    |false=>exact absurd ((hL.iff e.on).1 hg) f3⟩
   rw[h0]at this
   cases this
 intro a w hfr hi'
 refine⟨fun h0=>absurd h0 hne,fun j hj=>?_⟩
 obtain⟨p,hp,rfl⟩:=bh.1 (hready j hj)
 obtain⟨⟨⟨⟨⟨d1,d2⟩,d3⟩,d4⟩,d5⟩,d6⟩:=c2 p hp
 have d3':p.1∉p.2.map (·.1):=fun hm=>by rw[j9.2 hm]at d3;cases d3
 refine h.get p hp fuel listed Wq1 (Lst.step (hL.set fun j=>?_) d3') d6 hn a w hfr hi'
 constructor
 ·intro hj
  obtain⟨q,hq,rfl⟩:=bh.1 hj
  rcases d4 q hq with h1|h1
  ·simp[bG h1]
  exact bC _ h1
 intro hj
 rcases aK.1 hj with rfl|hj
 ·exact d2
 obtain⟨q,hq,rfl⟩:=bh.1 hj
 exact d5 q hq
theorem fD{st:Bool}{K:Value→List bJ→Prop}(hi:ops[i]? =some ⟨some d,op,ty,pos,af,none⟩)(hst:St.st i=st)
  (ht:OpT C ⟨some d,op,ty,pos,af,none⟩ fr cs st K) (hJ:st=true→∀v cs',K v cs'→∀w,Inv C.w0 C.S cs' w→cells St.l0 w) (hd:Nat.blt d C.N=true) (h:∀v cs',K v cs'→WS C St ops Q s ((d,v)::fr) cs'):WSI C St ops Q i s fr cs:=fun fuel listed h1 h2 h3 h4=>
 iZ hi hst ht hJ hd fun v cs' hk=>h v cs' hk fuel _ h1 h2 h3 h4
theorem eC{st:Bool}{K:Value→List bJ→Prop}(hi:ops[i]? =some ⟨none,op,ty,pos,af,none⟩)(hst:St.st i=st)
  (ht:OpT C ⟨none,op,ty,pos,af,none⟩ fr cs st K) (hJ:st=true→∀v cs',K v cs'→∀w,Inv C.w0 C.S cs' w→cells St.l0 w) (h:∀v cs',K v cs'→WS C St ops Q s fr cs'):WSI C St ops Q i s fr cs:=fun fuel listed h1 h2 h3 h4=>
 dp hi hst ht hJ fun v cs' hk=>h v cs' hk fuel _ h1 h2 h3 h4
theorem wsi_tg{st:Bool}{K:Value→List bJ→Prop}(hi:ops[i]? =some ⟨some d,op,ty,pos,af,gd⟩)(hst:St.st i=st)
  (hg:bP ops fr ⟨some d,op,ty,pos,af,gd⟩ g) (hg1:g=true)
  (ht:OpT C ⟨some d,op,ty,pos,af,gd⟩ fr cs st K) (hJ:st=true→∀v cs',K v cs'→∀w,Inv C.w0 C.S cs' w→cells St.l0 w) (hd:Nat.blt d C.N=true) (h:∀v cs',K v cs'→WS C St ops Q s ((d,v)::fr) cs'):WSI C St ops Q i s fr cs:=fun fuel listed h1 h2 h3 h4=>
 wi_tg hi hst hg hg1 ht hJ hd fun v cs' hk=>h v cs' hk fuel _ h1 h2 h3 h4
theorem CD(hi:ops[i]? =some ⟨some d,op,ty,pos,af,none⟩)(hy:OpY C ⟨some d,op,ty,pos,af,none⟩ fr true V v)(hV:∀w,Inv C.w0 C.S cs w→V w)(hd:Nat.blt d C.N=true)
  (h:WS C St ops Q s ((d,v)::fr) cs):WSI C St ops Q i s fr cs:=fun fuel listed h1 h2 h3 h4=>AU hi hy hV hd (h fuel _ h1 h2 h3 h4)
theorem ws_fact{F:Prop}(hf:∀w,Inv C.w0 C.S cs w→F)(h:F→WS C St ops Q s fr cs):WS C St ops Q s fr cs:=fun fuel listed h1 h2 h3 h4 a w hfr hi=>h (hf w hi) fuel listed h1 h2 h3 h4 a w hfr hi
end
theorem Zrf.{u,v}{α:Sort u}{β:Sort v}{f g:α→β}(h:∀x,f x=g x:=by exact fun _=>rfl):∀x,f x=g x:=h
theorem Zgn{α:Type}(a:α):∃b,a=b:=⟨a,rfl⟩
section
variable {C:Cx} {Q:kM} {fr:Fr} {cs cs':List bJ} {ops:Array Oper} {x y:Code} {rest:List Oper} {fn:Func} {K:Value→List bJ→Prop} {K':Exit→World→Prop} {v v':Value} {d:Nat} {f:FuncId} {ty:TypeId} {pos:String} {af:Array Edge} {i fuel:Nat} {listed:Array Bool} {St:Dr} {s:List (Nat×Nat)} {l:List Operand} {vs:List Value} {ats:Array TypeId}
theorem ZJ{st:Bool}{L:List (Addr×Value)}(hl:L=[]:=by exact rfl):st=true→∀v cs',K v cs'→∀w,Inv C.w0 C.S cs' w→cells L w:=by
 subst hl
 intro _ _ _ _ _ _ _ h
 cases h
theorem ZW{o:Operand}{b:Bool}(ht:b=true→WC C x Q fr cs)(hf:b=false→WC C y Q fr cs)(hc:ev fr o=some (.bool b):=by exact rfl):WC C (.cond o x y) Q fr cs:=xQ b hc ht hf
theorem Zra{t:Nat}(hk:K v [])(h0:fn.results= #[.tmp t]:=by exact rfl)(h1:look fr t=some v:=by exact rfl):QOk C (bodyPost C.P fn (xK C.w0 C.S K)) .ret fr cs:=xH (.inl rfl) (List.nil_sublist _) h0 h1 hk
theorem Zrb{t:Nat}(cs':List bJ)(hk:K v cs')(hs:cs'.Sublist cs:=by exact Zu)(h0:fn.results= #[.tmp t]:=by exact rfl)(h1:look fr t=some v:=by exact rfl):QOk C (bodyPost C.P fn (xK C.w0 C.S K)) .ret fr cs:=xH (.inl rfl) hs h0 h1 hk
theorem ZcL(cin:List bJ){rs:List bJ}(hc:∀w,Inv C.w0 C.S cs w→Inv w (bK cin) cin w→Ctr C.P f vs w cin K)(h:∀v cs',(∃cout,K v cout∧cs'=cout++rs)→WL C ops Q rest ((d,v)::fr) cs')(hl:evs fr l=some vs:=by exact rfl)(hf:∀args w,(callFunc f args).run C.P w= .ok (.enter f args) w:=by exact fun _ _=>rfl)(hp:ji cin cs rs:=by exact Zi)(hd:Nat.blt d C.N=true:=by exact rfl):
  WL C ops Q (⟨some d,.call {callee:= .value (.func f),args:=l.toArray,argTypes:=ats},ty,pos,af,none⟩::rest) fr cs:=fb (eB cin hl hf hp hc) hd h
theorem ZcA(cin:List bJ){rs:List bJ}(hc:∀w,Inv C.w0 C.S cs w→Inv w (bK cin) cin w→Ctr C.P f vs w cin K)(h:∀v cs',(∃cout,K v cout∧cs'=cout++rs)→WA C St ops Q fuel (listed.setIfInBounds i true) ((d,v)::fr) cs')(hi:ops[i]? =some ⟨some d,.call {callee:= .value (.func f),args:=l.toArray,argTypes:=ats},ty,pos,af,none⟩:=by exact rfl)(hst:St.st i=true:=by exact rfl)(hl0:St.l0=[]:=by exact rfl)(hl:evs fr l=some vs:=by exact rfl)(hf:∀args w,(callFunc f args).run C.P w= .ok (.enter f args) w:=by exact fun _ _=>rfl)(hp:ji cin cs rs:=by exact Zi)(hd:Nat.blt d C.N=true:=by exact rfl):
  WI C St ops Q fuel listed i fr cs:=iZ hi hst (eB cin hl hf hp hc) (ZJ hl0) hd h
theorem ZcS(cin:List bJ){rs:List bJ}(hc:∀w,Inv C.w0 C.S cs w→Inv w (bK cin) cin w→Ctr C.P f vs w cin K)(h:∀v cs',(∃cout,K v cout∧cs'=cout++rs)→WS C St ops Q s ((d,v)::fr) cs')(hi:ops[i]? =some ⟨some d,.call {callee:= .value (.func f),args:=l.toArray,argTypes:=ats},ty,pos,af,none⟩:=by exact rfl)(hst:St.st i=true:=by exact rfl)(hl0:St.l0=[]:=by exact rfl)(hl:evs fr l=some vs:=by exact rfl)(hf:∀args w,(callFunc f args).run C.P w= .ok (.enter f args) w:=by exact fun _ _=>rfl)(hp:ji cin cs rs:=by exact Zi)(hd:Nat.blt d C.N=true:=by exact rfl):
  WSI C St ops Q i s fr cs:=fD hi hst (eB cin hl hf hp hc) (ZJ hl0) hd h
theorem Zv0{x:Operand}{u:Value}{g:Bool}(h:ev fr x=some u:=by exact rfl):Ev fr g x u:=pY h
theorem Zfo{P:Program}{T k n:Nat}(h:gY P T k=some n:=by first|exact(rfl:_=some 0)|exact(rfl:_=some 1)|exact(rfl:_=some 2)|exact(rfl:_=some 3)|exact(rfl:_=some 4)|exact(rfl:_=some 5)|exact(rfl:_=some 6)|exact(rfl:_=some 7)|exact(rfl:_=some 8)|exact(rfl:_=some 9)|exact(rfl:_=some 10)|exact(rfl:_=some 11)|exact(rfl:_=some 12)|exact(rfl:_=some 13)|exact(rfl:_=some 14)|exact(rfl:_=some 15)|exact(rfl:_=some 16)|exact(rfl:_=some 17)|exact(rfl:_=some 18)|exact(rfl:_=some 19)|exact(rfl:_=some 20)|exact(rfl:_=some 21)):gY P T k=some n:=h
theorem ZFc{T:TypeId}{x:Operand}{bb r n o k:Nat}(h:WL C ops Q rest ((d,.pointer (some ⟨bb,r,none⟩))::fr) cs)(ho:gY C.P T k=some n:=by exact Zfo)(hx:Ev fr true x (.pointer (some ⟨bb,o,none⟩)):=by exact Zev)(hr:o+n=r:=by exact Zf)(hd:Nat.blt d C.N=true:=by exact rfl):
  WL C ops Q (⟨some d,.fieldAddr T x k,ty,pos,af,none⟩::rest) fr cs:=dL (dN n ho hx hr) (fun _ _=>trivial) hd h
theorem ZFd{T:TypeId}{x:Operand}{g:Bool}{j:Nat×Bool}{bb r n o k:Nat}(h:WL C ops Q rest ((d,bif g then .pointer (some ⟨bb,r,none⟩)else undef)::fr) cs)(hg:bP ops fr ⟨some d,.fieldAddr T x k,ty,pos,af,some j⟩ g:=by exact Zgd)(ho:gY C.P T k=some n:=by exact Zfo)(hx:Ev fr g x (.pointer (some ⟨bb,o,none⟩)):=by exact Zev)(hr:o+n=r:=by exact Zf)(hd:Nat.blt d C.N=true:=by exact rfl):
  WL C ops Q (⟨some d,.fieldAddr T x k,ty,pos,af,some j⟩::rest) fr cs:=hH hg (dN n ho hx hr) (fun _ _=>trivial) hd h
theorem ZlR{T:TypeId}{x:Operand}{bb t:Nat}{xs:List Value}(h:WL C ops Q rest ((d,.agg xs.toArray)::fr) cs)(hx:Ev fr true x (.pointer (some ⟨bb,0,none⟩)):=by exact Zev)(hc:Has cs (row bb xs t):=by exact Zh)(hT:∀w,(isAgg T).run C.P w= .ok true w:=by exact fun _=>rfl)(hs:∀w,(sizeOf T).run C.P w= .ok xs.length w:=by exact fun _=>rfl)(hd:Nat.blt d C.N=true:=by exact rfl):
  WL C ops Q (⟨some d,.load T x,ty,pos,af,none⟩::rest) fr cs:=AR hc hT hs hx hd h
theorem ZSe{X:Value}(hc:∀w,Inv C.w0 C.S cs w→Ctr C.P f vs w [] (fun v cs=>v=X∧cs=[]))(h:WL C ops Q rest ((d,X)::fr) cs)(hl:evs fr l=some vs:=by exact rfl)(hf:∀args w,(callFunc f args).run C.P w= .ok (.enter f args) w:=by exact fun _ _=>rfl)(hd:Nat.blt d C.N=true:=by exact rfl):
  WL C ops Q (⟨some d,.call {callee:= .value (.func f),args:=l.toArray,argTypes:=ats},ty,pos,af,none⟩::rest) fr cs:=ZS hc (fun v cs' ⟨news,⟨h1,h2⟩,h3⟩=>by subst h1 h2;rw[ax]at h3;subst h3;exact h) hl hf hd
theorem ZcM{X:Value}(cin:List bJ){rs Y:List bJ}(hc:∀w,Inv C.w0 C.S cs w→Inv w (bK cin) cin w→Ctr C.P f vs w cin (fun v cs=>v=X∧cs=Y))(h:WL C ops Q rest ((d,X)::fr) (Y++rs))(hl:evs fr l=some vs:=by exact rfl)(hf:∀args w,(callFunc f args).run C.P w= .ok (.enter f args) w:=by exact fun _ _=>rfl)(hp:ji cin cs rs:=by exact Zi)(hd:Nat.blt d C.N=true:=by exact rfl):
  WL C ops Q (⟨some d,.call {callee:= .value (.func f),args:=l.toArray,argTypes:=ats},ty,pos,af,none⟩::rest) fr cs:=ZcL cin hc (fun v cs' ⟨co,⟨h1,h2⟩,h3⟩=>by subst h1 h2 h3;exact h) hl hf hp hd
end
variable {P Q:Prop}
theorem Z_1(h:Q)(f:Q→P:=by first
 |with_reducible exact fun h=>Zs h|with_reducible exact fun h=>Zr h|with_reducible exact fun h=>Zn h|with_reducible exact fun h=>Zt h|with_reducible exact fun h=>Zc h|with_reducible exact fun h=>Zo h|with_reducible exact fun h=>Zx h|with_reducible exact fun h=>Ze h|with_reducible exact fun h=>Zw h|with_reducible exact fun h=>Zq h|with_reducible exact fun h=>wc_exit h|with_reducible exact fun h=>yf h
 |exact fun h=>ZA h|exact fun h=>ZFc h|exact fun h=>ZC h|exact fun h=>ZlR h|exact fun h=>ZB h|exact fun h=>ZD h|exact fun h=>ZFd h
 |exact fun h=>wm rfl h|exact fun h=>uR rfl h):P:=f h
theorem Z_2(h:Q)(f:Q→P:=by intro h;(iterate 2 refine Z_1 ?_);exact h):P:=f h
theorem Z_3(h:Q)(f:Q→P:=by intro h;(iterate 3 refine Z_1 ?_);exact h):P:=f h
theorem Z_4(h:Q)(f:Q→P:=by intro h;(iterate 4 refine Z_1 ?_);exact h):P:=f h
theorem Z_5(h:Q)(f:Q→P:=by intro h;(iterate 5 refine Z_1 ?_);exact h):P:=f h
theorem Z_6(h:Q)(f:Q→P:=by intro h;(iterate 6 refine Z_1 ?_);exact h):P:=f h
theorem Z_7(h:Q)(f:Q→P:=by intro h;(iterate 7 refine Z_1 ?_);exact h):P:=f h
theorem Z_8(h:Q)(f:Q→P:=by intro h;(iterate 8 refine Z_1 ?_);exact h):P:=f h
theorem Z_9(h:Q)(f:Q→P:=by intro h;(iterate 9 refine Z_1 ?_);exact h):P:=f h
theorem dS(h:Q)(f:Q→P:=by intro h;(iterate 10 refine Z_1 ?_);exact h):P:=f h
theorem fF(h:Q)(f:Q→P:=by intro h;(iterate 11 refine Z_1 ?_);exact h):P:=f h
theorem gE(h:Q)(f:Q→P:=by intro h;(iterate 12 refine Z_1 ?_);exact h):P:=f h
theorem jA(h:Q)(f:Q→P:=by intro h;(iterate 13 refine Z_1 ?_);exact h):P:=f h
theorem gL(h:Q)(f:Q→P:=by intro h;(iterate 14 refine Z_1 ?_);exact h):P:=f h
theorem p6(h:Q)(f:Q→P:=by intro h;(iterate 15 refine Z_1 ?_);exact h):P:=f h
theorem p5(h:Q)(f:Q→P:=by intro h;(iterate 16 refine Z_1 ?_);exact h):P:=f h
theorem vz(h:Q)(f:Q→P:=by intro h;(iterate 17 refine Z_1 ?_);exact h):P:=f h
theorem AI(h:Q)(f:Q→P:=by intro h;(iterate 18 refine Z_1 ?_);exact h):P:=f h
theorem FT(h:Q)(f:Q→P:=by intro h;(iterate 19 refine Z_1 ?_);exact h):P:=f h
theorem lw(h:Q)(f:Q→P:=by intro h;(iterate 20 refine Z_1 ?_);exact h):P:=f h
def rdB(A:Option Addr):List Value→List Nat
 |[]=>[]
 |_::_=>ab A
theorem Cg{w w':World}{a:Addr}(h:w'.heap[a.block]? =w.heap[a.block]?):w'.cell? a=w.cell? a:=by
 unfold World.cell?;rw[h]
theorem cell_lt{w:World}{a:Addr}{v:Value}(h:w.cell? a=some v):a.block<w.heap.size:=by
 unfold World.cell? at h;cases hb:w.heap[a.block]? with
 |none=>rw[hb]at h;cases h
 |some o=>exact(Array.getElem?_eq_some_iff.1 hb).1
def rdC(A:Option Addr)(n c:Nat)(xs:List Value):bJ:= .gen (rdB A xs) (fun w=>RdV w 1 A n c xs)
 (fun w w' hb h=>⟨h.len,h.cap,h.max,h.nil,fun ad e j u hu=>by
  have h1:=h.at_ ad e j u hu;rw[Cg]
  ·exact h1
  rw[my];refine hb _ ?_;cases xs with
  |nil=>simp at hu
  |cons x xs=>subst e;simp[rdB,ab]⟩)
 (fun w h b hb=>by
  cases xs with
  |nil=>cases hb
  |cons x xs=>
   cases hA:A with
   |none=>rw[hA]at hb;simp[rdB,ab]at hb
   |some ad=>
    rw[hA]at hb;simp only[rdB,ab,aL]at hb;subst hb;have:=cell_lt (h.at_ ad hA 0 x rfl);rwa[my]at this)
section
variable {C:Cx} {Q:kM} {fr:Fr} {cs cs':List bJ} {c c':bJ} {ops:Array Oper} {rest:List Oper}
end
theorem Hn(w:World)(S:List Nat):Inv w S [rdC none 0 0 []] w:=
 ⟨dC.refl _ _,by simp[bK,rdC,bJ.bs,rdB],fun c hc=>by
  rw[aL]at hc;subst hc;exact(⟨rfl,aN _,au _,fun _=>⟨rfl,rfl⟩,fun ad e=>by cases e⟩:RdV w 1 none 0 0 []),fun b hb=>by simp[bK,rdC,bJ.bs,rdB]at hb⟩
theorem wl_nilr{C:Cx}{Q:kM}{fr:Fr}{cs:List bJ}{ops:Array Oper}{rest:List Oper}(h:WL C ops Q rest fr (cs++[rdC none 0 0 []])):WL C ops Q rest fr cs:=fun a w hf hi=>h a w hf (hi.more (Hn w []))
section
variable {C:Cx} {fr:Fr} {cs:List bJ} {d:Option Tmp} {ty:TypeId} {pos:String} {af:Array Edge} {gd:Option (Nat×Bool)} {v:Value} {g:Bool} {x y:Operand} {T T':TypeId}
theorem FY{ad r:Addr}(n:Nat){f:Nat}(ho:gY C.P T f=some n)(hx:Ev fr g x (.pointer (some ad)))(hr:ad.add n=r):OpY C ⟨d,.fieldAddr T x f,ty,pos,af,gd⟩ fr g Any (.pointer (some r)):=fun A w hf _ hg=>by
 subst hr;unfold gY at ho;split at ho
 ·rename_i fs hfs
  split at ho
  ·rename_i fd hfd
   split at ho
   ·rename_i i hi
    by_cases hz:i.size=0
    ·simp[hz]at ho
    have hz':Nat.beq i.size 0=false:=by cases h':Nat.beq i.size 0 with|false=>rfl|true=>exact absurd (bG h') hz
    rw[hz']at ho;simp only[aa,aR]at ho;subst ho;simp[execOp,hx.eval hf hg,Instr.fieldAt,run_underlying hfs,hfd,Instr.sureAddr,fieldPlace,sizeOf,typeInfo,hi,hz]
   cases ho
  cases ho
 cases ho
theorem ke{w:World}{ad:Addr}{b:Nat}:∀{vs:List Value} {i:Nat},(∀j v,vs[j]? =some v→w.cell? (ad.add (b+i+j))=some v)→cells (eJ (ad.add b) i vs) w
 |[],_,_=>fun x hx=>by cases hx
 |u::vs,i,h=>fun x hx=>by
  rcases aK.1 hx with rfl|hx
  ·show w.cell? ((ad.add b).add i)=some u;rw[pJ];exact h 0 u rfl
  exact ke (vs:=vs) (i:=i+1) (fun j v hj=>by
   have:=h (j+1) v (by simpa using hj);rwa[show b+i+(j+1)=b+(i+1)+j by omega]at this) x hx
theorem fv{w0:World}{sz n c b:Nat}{ad:Addr}{xs vs:List Value}(h:RdV w0 sz (some ad) n c xs)(hv:∀j v,vs[j]? =some v→xs[b+j]? =some v):∀w,Inv w0 [] cs w→cells (eJ (ad.add b) 0 vs) w:=fun w hi=>
 ke fun j v hj=>by
  rw[Nat.add_zero];exact(h.Jz hi).at_ ad rfl (b+j) v (hv j v hj)
end
theorem fB{α:Type}{f:α→List Value}{sz:Nat}(hf:∀a,(f a).length=sz):∀{xs:List α} {k i:Nat} {a:α} {v:Value},xs[k]? =some a→(f a)[i]? =some v→(xs.flatMap f)[k*sz+i]? =some v
 |[],k,i,a,v,h,_=>by simp at h
 |x::xs,0,i,a,v,h,h2=>by
  simp only[List.getElem?_cons_zero,aR]at h;subst h;have:=(ar.1 h2).1;rw[List.flatMap_cons,Nat.zero_mul,bl,bD this];exact h2
 |x::xs,k+1,i,a,v,h,h2=>by
  rw[List.flatMap_cons,bF (by rw[hf,Nat.succ_mul];omega),hf,show(k+1)*sz+i - sz=k*sz+i by rw[Nat.succ_mul];omega];exact fB hf (by simpa using h) h2
theorem vn{α:Type}{f:α→List Value}{sz:Nat}(hf:∀a,(f a).length=sz):∀xs:List α,(xs.flatMap f).length=xs.length*sz
 |[]=>by simp
 |x::xs=>by rw[List.flatMap_cons,ae,hf,vn hf xs,aj,Nat.succ_mul];omega
section
open Go.ChangeShapes Go.WideShapes
variable {P:Program} {w:World} {t:TypeId} {cs:List Value} {v:Value}
theorem Arg.rows{α:Type}{e:TypeId}{sz:Nat}{f:α→List Value}{Q:α→Prop}(ht:P.underlying t=some (.slice e))(hc:P.cellsOf e=sz)(hf:∀a,(f a).length=sz)(a0:α)
  (ho:∀es,Arg P w e es→∃a,es=f a∧Q a) (h:Arg P w t cs):
  ∃(A:Option Addr) (c:Nat) (xs:List α),cs=[.slice A xs.length c]∧RdV w sz A xs.length c (xs.flatMap f)∧(∀x,x∈xs→Q x)∧c*P.bytesOf e≤140737488351232:=by
 rcases h.slice ht with rfl|⟨a,len,cap,rfl,hl,hm,hb,hi⟩
 ·exact⟨none,0,[],rfl,⟨by simp,aN _,by decide,fun _=>⟨rfl,rfl⟩,fun _ h=>by cases h⟩,(fun x hx=>by cases hx),by simp⟩
 have each:∀i:Nat,∃x:α,i<cap→(∀j v,(f x)[j]? =some v→w.cell? (a.add (i*sz+j))=some v)∧Q x:=fun i=>by
  by_cases hlt:i<cap
  ·obtain⟨es,base,h1,h2⟩:=hi i hlt;obtain⟨x,rfl,hq⟩:=ho es h2;rw[hc]at h1;refine⟨x,fun _=>⟨fun j v hj=>?_,hq⟩⟩;have hjl:=(ar.1 hj).1;rw[hf]at hjl;have:=(World.cells?_some h1).2.2 j hjl;rw[Go.Ink.pJ]at this;rw[this];exact hj
  exact⟨a0,fun h=>absurd h hlt⟩
 obtain⟨g,hg⟩:=Classical.axiomOfChoice each;refine⟨some a,cap,(List.range len).map g,by simp,⟨by rw[vn hf],by simpa using hl,hm,(fun h=>by cases h),?_⟩,?_,hb⟩
 ·intro ad e j u hu;obtain rfl:a=ad:=by simpa using e
  have hj:=(ar.1 hu).1;rw[vn hf,List.length_map,List.length_range]at hj;by_cases hsz:sz=0
  ·subst hsz;simp at hj
  have hq:j/sz<len:=(Nat.div_lt_iff_lt_mul (Nat.pos_of_ne_zero hsz)).2 hj;have hjm:j/sz*sz+j%sz=j:=Nat.div_add_mod' j sz;have hx:((List.range len).map g)[j/sz]? =some (g (j/sz)):=by rw[aZ,List.getElem?_range hq];rfl
  have hr:j%sz<(f (g (j/sz))).length:=by rw[hf];exact Nat.mod_lt _ (Nat.pos_of_ne_zero hsz)
  have h1:=fB hf hx (ai hr);rw[hjm]at h1;rw[h1]at hu;have h2:=(hg (j/sz) Wq1).1 (j%sz) _ (ai hr);rw[hjm]at h2;rw[h2,hu]
 intro x hx;simp only[bh,List.mem_range]at hx;obtain⟨i,hi',rfl⟩:=hx;exact(hg i Wq1).2
theorem yU.rows{α:Type}{e:TypeId}{sz:Nat}{f:α→List Value}{Q:α→Prop}(ht:P.underlying t=some (.slice e))(hc:P.cellsOf e=sz)(hf:∀a,(f a).length=sz)(a0:α)
  (ho:∀es,Arg P w e es→∃a,es=f a∧Q a) (h:yU P w t v):
  ∃(A:Option Addr) (c:Nat) (xs:List α),v= .slice A xs.length c∧RdV w sz A xs.length c (xs.flatMap f)∧(∀x,x∈xs→Q x)∧c*P.bytesOf e≤140737488351232:=by
 obtain⟨⟨r,b,hk⟩,h⟩:=h;obtain⟨a,l,c,rfl⟩:=okWide_slice ht hk;obtain⟨A,c',xs,h1,h2⟩:=h.rows ht hc hf a0 ho;simp[Value.cells]at h1;obtain⟨rfl,rfl,rfl⟩:=h1;exact⟨_,_,_,rfl,h2⟩
end
def EqI(P:Program)(k e c:Nat)(xs ys:Array Value)(is:List Nat):Prop:=∀w:World,(Op.eqItems k e c xs ys is).run P w= .ok true w
theorem EqI.nil{P:Program}{k e c:Nat}{xs ys:Array Value}:EqI P k e c xs ys []:=fun w=>rfl
theorem EqI.cons{P:Program}{k e c i:Nat}{xs ys:Array Value}{is:List Nat}{a b:Value}(ha:∀w,(part e xs (i*c)).run P w= .ok a w)(hb:∀w,(part e ys (i*c)).run P w= .ok b w)(he:EqV P k e a b)(h:EqI P k e c xs ys is):EqI P k e c xs ys (i::is):=fun w=>by
 simp only[Op.eqItems,Sem.run_bind,ha w,hb w,Result.andThen_ok,he w,Bool.not_true,Bool.false_eq_true,if_false];exact h w
section
variable {C:Cx} {fr:Fr} {cs:List bJ}
theorem y_neg{fr:Fr}{g:Bool}{x:Operand}{k:IntKind}{a r:Int}{d:Option Tmp}{T ty:TypeId}{pos:String}{af:Array Edge}{gd:Option (Nat×Bool)}(hx:Ev fr g x (.int k a))(hr:k.wrap (0 - a)=r):OpY C ⟨d,.unOp .neg T x,ty,pos,af,gd⟩ fr g Any (.int k r):=fun A w hf _ hg=>by
 subst hr;unfold execOp;simp only[hx.eval hf hg]
 rfl
theorem Bu{fn:Func}{K:Value→List bJ→Prop}{fr:Fr}{cs cs':List bJ}{e:Exit}{t T bb tt u s:Nat}{v v':Value}{xs:List Value}(he:e= .ret∨e= .normal)(hs:cs'.Sublist cs)(h0:fn.results= #[.cell t T,.tmp u,.tmp s])(h1:look fr t=some (.pointer (some ⟨bb,0,none⟩)))(h2:look fr u=some v)(h3:look fr s=some v')(hc:Has cs (row bb xs tt))
  (hT:∀w,(isAgg T).run C.P w= .ok true w) (hz:∀w,(sizeOf T).run C.P w= .ok xs.length w) (hk:K (.tuple #[.agg xs.toArray,v,v']) cs'):QOk C (bodyPost C.P fn (xK C.w0 C.S K)) e fr cs:=
 lO he hs (fun a w hf hi=>by
  have e1:=hf.at_ t _ h1;have e2:=hf.at_ u _ h2;have e3:=hf.at_ s _ h3;simp only[aX]at e1 e2 e3;simp[results,h0,e1,e2,e3,asAddr,gt hT hz hi hc]) hk
end
theorem Inv.past{S:List Nat}{cs cin:List bJ}{w0 w w':World}(h:Inv w0 S cs w)(hT:∀c,c∈cin→c∈cs)(hk:dC (bK cin) w w'):dC S w0 w':=
 ⟨hk.os.trans h.JJ.os,hk.tape.trans h.JJ.tape,hk.output.trans h.JJ.output,aV h.JJ.size hk.size,fun b hb hS=>by
  refine(hk.block b (Nat.lt_of_lt_of_le hb h.JJ.size) fun hb2=>?_).trans (h.JJ.block b hb hS);obtain⟨c,hc,hbc⟩:=dc.1 hb2;rcases h.own b (dc.2 ⟨c,hT c hc,hbc⟩)with h1|h1
  ·exact hS h1
  omega⟩
section
variable {C:Cx} {fr:Fr} {d:Option Tmp} {ty:TypeId} {pos:String} {af:Array Edge} {gd:Option (Nat×Bool)} {g:Bool} {x y:Operand} {T T':TypeId}
theorem y_min{k:IntKind}{a b:Int}(hx:Ev fr g x (.int k a))(hy:Ev fr g y (.int k b)){r:Int}(hr:(if b<a then b else a)=r):OpY C ⟨d,.call {callee:= .builtin .min,args:= #[x,y],argTypes:= #[T,T']},ty,pos,af,gd⟩ fr g Any (.int k r):=fun A w hf _ hg=>by
 subst hr;simp[execOp,resolve,invoke,builtin,hx.eval hf hg,hy.eval hf hg,Builtin.min_,Builtin.min2]
end
abbrev dg(cin:List bJ):bJ:=exC (α:=Unit) (bK cin) (fun _=>cin) Zrf (fun _=>True)
theorem qx{cin:List bJ}{w:World}(h:(dg cin).ok w):∀c,c∈cin→c.ok w:=by
 obtain⟨_,_,_,h3⟩:=h;exact h3
theorem Inv.JY{w0 w w':World}{S:List Nat}{cs cin rest:List bJ}{c:bJ}(h:Inv w0 S cs w)(hp:ji cin cs rest)(h2:Has rest c)(hk:dC (bK cin) w w'):c.ok w':=by
 have hc:=h.ok _ (hp.perm.symm.subset (List.mem_append_right _ h2.mem));refine c.loc w w' (fun b hb=>hk.block b (c.lt w hc b hb) fun hin=>?_) hc;have hn:=((hp.perm.flatMap_right bJ.bs).nodup_iff).1 h.nodup;rw[List.flatMap_append]at hn;exact(List.nodup_append.1 hn).2.2 b hin b (dc.2 ⟨_,h2.mem,hb⟩) rfl
section
variable {C:Cx} {Q:kM} {fr:Fr} {cs r:List bJ} {ops:Array Oper} {l:List Oper} {x:Code}
theorem CE(cin:List bJ)(hs:ji cin cs r)(h:WL C ops Q l fr (dg cin::r)):WL C ops Q l fr cs:=y5 () trivial hs h
end
section
variable {C:Cx} {fr:Fr} {cs:List bJ} {d:Option Tmp} {ty:TypeId} {pos:String} {af:Array Edge} {gd:Option (Nat×Bool)} {x:Operand}
theorem v5{f:FuncId}{l:List Operand}{vs fs caps:List Value}{ats:Array TypeId}{a:Act}{w:World}(hf:oR C.N fr a)(hx:ev fr x=some (.func (.func f) fs.toArray caps.toArray))(hl:evs fr l=some vs)(hc:∀args w,(callFunc f args).run C.P w= .ok (.enter f args) w):
  (execOp a.eval ⟨d,.call {callee:= .value x,args:=l.toArray,argTypes:=ats},ty,pos,af,gd⟩).run C.P w= .ok (.enter f (fs++vs++caps).toArray) w:=by
 have h1:=hf.ev hx;simp[execOp,resolve,invoke,Deferred.ofValue,h1,←z8 hf hl,hc]
theorem t_callV{f:FuncId}{l:List Operand}{vs fs caps:List Value}{ats:Array TypeId}{K:Value→List bJ→Prop}(hx:ev fr x=some (.func (.func f) fs.toArray caps.toArray))(hl:evs fr l=some vs)(hc:∀args w,(callFunc f args).run C.P w= .ok (.enter f args) w)
  (h:∀w,Inv C.w0 C.S cs w→Ctr C.P f (fs++vs++caps) w [] K):
  OpT C ⟨d,.call {callee:= .value x,args:=l.toArray,argTypes:=ats},ty,pos,af,gd⟩ fr cs false (fun v cs'=>∃news,K v news∧cs'=cs++news):=fun a w hf hinv next Q hn=>by
 unfold Oper.wp;rw[v5 hf hx hl hc];refine Calls.mono (h w hinv) fun e w' hp=>?_
 obtain⟨v,cout,rfl,hk,hi⟩:=hp;exact hn _ _ _ ⟨cout,hk,rfl⟩ (hinv.more hi) (fun _=>uo.Kd hi.JJ)
end
theorem vZ{w0:World}{S:List Nat}{cs:List bJ}{e sz n c b:Nat}{ad:Addr}{xs vs:List Value}(hc:Has cs (slv e sz (some ad) n c xs))(hv:∀j v,vs[j]? =some v→xs[b+j]? =some v):∀w,Inv w0 S cs w→cells (eJ (ad.add b) 0 vs) w:=fun w hi=>
 ke fun j v hj=>by
  rw[Nat.add_zero];exact(de (hi.get hc)).at_ ad rfl (b+j) v (hv j v hj)
theorem jw{w0:World}{S:List Nat}{cs:List bJ}{n c j:Nat}{ad:Addr}{xs:List Value}{v:Value}(h:∀w',dC S w0 w'→RdV w' 1 (some ad) n c xs)(hv:xs[j]? =some v):∀w,Inv w0 S cs w→cells [(ad.add (j*1),v)] w:=fun w hi z hz=>by
 rw[aL]at hz;subst hz;rw[Nat.mul_one];exact(h w hi.JJ).at_ ad rfl j v hv
theorem gU{w:World}{e sz n c:Nat}{A:Option Addr}{xs:List Value}(h:(slv e sz A n c xs).ok w)(hn:0<n):∃b,A=some ⟨b,0,none⟩:=by
 rcases h.2 with⟨_,h'⟩|⟨g',cap',cur,h',_⟩
 ·omega
 simp only[Value.slice.injEq]at h';exact⟨g',h'.1⟩
theorem zk{w0:World}{S:List Nat}{cs:List bJ}{e sz n c j bb:Nat}{xs:List Value}{v:Value}(hc:Has cs (slv e sz (some ⟨bb,0,none⟩) n c xs))(hv:xs[j]? =some v):∀w,Inv w0 S cs w→cells [(⟨bb,j,none⟩,v)] w:=fun w hi z hz=>by
 rw[aL]at hz;subst hz;have:=(hi.rd hc).at_ _ rfl j v hv;rw[Addr.add_lit,bl]at this;exact this
section
variable {C:Cx} {fr:Fr} {cs:List bJ} {d:Option Nat} {T T':TypeId} {x y:Operand} {ty:TypeId} {pos:String} {af:Array Edge} {gd:Option (Nat×Bool)} {g:Bool} {v:Value}
theorem uC{bb o n c e sz:Nat}{xs:List Value}{mk:bJ→List bJ}(hT:∀w,(sizeOf T).run C.P w= .ok 1 w)(hx:ev fr x=some (.pointer (some ⟨bb,o,none⟩)))(hy:ev fr y=some v)(h1:v.oneCell'=true)(hu:At cs (slv e sz (some ⟨bb,0,none⟩) n c xs) mk)(ho:o<n*sz):
  OpT C ⟨d,.store T x y,ty,pos,af,gd⟩ fr cs true (fun u cs'=>u=undef∧cs'=mk (slv e sz (some ⟨bb,0,none⟩) n c (xs.set o v))):=fun a w hf hi next Q h=>by
 have hown:w.ownsRow 0 e sz (.slice (some ⟨bb,0,none⟩) n c) n xs:=hi.get hu.has;have hlen:=hown.1;have hc:w.cell? ⟨bb,o,none⟩=some (xs[o]'(by omega)):=by
  rw[hown.cellAt o Wq1];exact ai Wq1
 have hfz:w.frozen? ⟨bb,o,none⟩=false:=hown.frozenAt o;have hcs:v.cells= #[v]:=by cases v<;>first|rfl|cases h1
 have hr:(execOp a.eval ⟨d,.store T x y,ty,pos,af,gd⟩).run C.P w= .ok .skip (w.setCell ⟨bb,o,none⟩ v):=by
  simp[execOp,hf.ev hx,hf.ev hy,Instr.storeAt,Instr.sureAddr,storeVar,hT,hcs,storeCells,Addr.add_lit,run_store _ _ _ v _ h1,hc,hfz,stored]
 unfold Oper.wp;rw[hr];obtain⟨h2,h3⟩:=hown.stored o v;have hk:=dC.Ke (show w.grownBy (w.setCell ⟨bb,o,none⟩ v) (Value.slice (some ⟨bb,0,none⟩) n c).ownBlock from h3);refine h _ _ _ ⟨rfl,rfl⟩ (hi.upd (hu _) hk (jO hk h2 fun a ha=>?_)) (fun e=>by cases e);obtain rfl:(⟨bb,0,none⟩:Addr)=a:=by simpa using ha
 left;simp[slv,bJ.bs,ab]
end
section
variable {C:Cx} {fr:Fr} {cs:List bJ} {d:Option Nat} {x y:Operand} {ty:TypeId} {pos:String} {af:Array Edge} {gd:Option (Nat×Bool)} {g:Bool} {v:Value}
theorem kP{f:FuncId}{l:List Operand}{vs:List Value}(hl:evs fr l=some vs):OpY C ⟨d,.makeFunc (.func f) #[] l.toArray,ty,pos,af,gd⟩ fr g Any (.func (.func f) #[] vs.toArray):=fun A w hf _ hg=>by
 have h:=z8 hf hl;simp[execOp,Instr.makeFunc,←h]
theorem fp{f:FuncId}{l:List Operand}{vs fs caps:List Value}{ats:Array TypeId}{K:Value→List bJ→Prop}(cin:List bJ){rest:List bJ}(hx:ev fr x=some (.func (.func f) fs.toArray caps.toArray))(hl:evs fr l=some vs)(hc:∀args w,(callFunc f args).run C.P w= .ok (.enter f args) w)
  (hp:ji cin cs rest) (h:∀w,Inv C.w0 C.S cs w→Inv w (bK cin) cin w→Ctr C.P f (fs++vs++caps) w cin K):
  OpT C ⟨d,.call {callee:= .value x,args:=l.toArray,argTypes:=ats},ty,pos,af,gd⟩ fr cs true (fun v cs'=>∃cout,K v cout∧cs'=cout++rest):=fun a w hf hinv next Q hn=>by
 have hin:Inv w (bK cin) cin w:=⟨dC.refl _ _,by
  have:=((hp.perm.flatMap_right bJ.bs).nodup_iff).1 hinv.nodup;rw[show List.flatMap bJ.bs (cin++rest)=bK cin++bK rest from fO _ _]at this;exact(List.nodup_append.1 this).1,fun c hc=>hinv.ok c (hp.perm.mem_iff.2 (aS.2 (.inl hc))),fun b hb=> .inl hb⟩
 unfold Oper.wp;rw[v5 hf hx hl hc];refine Calls.mono (h w hinv hin) fun e w' hq=>?_
 obtain⟨v,cout,rfl,hk,hi⟩:=hq;exact hn _ _ _ ⟨cout,hk,rfl⟩ (hinv.step hp.perm (.refl _) hi.JJ hi) (fun e=>by cases e)
end
structure PA where
 i:Nat
 d:Nat
 zs:List Value
 T:TypeId
def marks(listed:Array Bool)(js:List Nat):Array Bool:=js.foldl (fun l i=>l.setIfInBounds i true) listed
def PAok(C:Cx)(St:Dr)(ops:Array Oper)(p:PA):Prop:=
 ∃op ty pos af,ops[p.i]? =some ⟨some p.d,op,ty,pos,af,none⟩∧St.st p.i=false∧Nat.blt p.d C.N=true∧∀fr cs,OpT C ⟨some p.d,op,ty,pos,af,none⟩ fr cs false (fun v cs'=>∃b,v= .pointer (some ⟨b,0,none⟩)∧cs'=cs++[row b p.zs p.T])
section
variable {C:Cx} {Q:kM} {fr:Fr} {cs:List bJ} {ops:Array Oper} {St:Dr} {fuel:Nat} {listed:Array Bool} {pl:List PA}
structure PLok(C:Cx)(St:Dr)(ops:Array Oper)(pl:List PA)(listed:Array Bool)(fr:Fr):Prop where
 ok:∀p,p∈pl→PAok C St ops p
 fr:∀p,p∈pl→look fr p.d=none
 dn:(pl.map (·.d)).Nodup
 in_:(pl.map (·.i)).Nodup
 rd:∀p,p∈pl→p.i∈Region.ready .any ops listed
end
theorem PLok.of{C:Cx}{St:Dr}{ops:Array Oper}{pl:List PA}{listed:Array Bool}{fr:Fr}(ok:∀p,p∈pl→PAok C St ops p)(hfr:(pl.all fun p=>(look fr p.d).isNone)=true)(hn:(pl.map (·.d)).Nodup∧(pl.map (·.i)).Nodup)
  (hrd:(pl.all fun p=>(Region.ready .any ops listed).contains p.i)=true):PLok C St ops pl listed fr:=
 ⟨ok,fun p hp=>by simpa using bE.1 hfr p hp,hn.1,hn.2,fun p hp=>by simpa using bE.1 hrd p hp⟩
section
variable {C:Cx} {fr:Fr} {cs:List bJ} {d:Option Tmp} {ty:TypeId} {pos:String} {af:Array Edge} {gd:Option (Nat×Bool)}
end
section
variable {C:Cx} {Q:kM} {fr:Fr} {cs:List bJ} {ops:Array Oper} {d:Nat} {op:Op} {ty:TypeId} {pos:String} {af:Array Edge} {gd:Option (Nat×Bool)} {v:Value} {g:Bool} {St:Dr} {fuel:Nat} {listed:Array Bool}
theorem s6(i:Nat){l:List (Addr×Value)}(hi:ops[i]? =some ⟨some d,op,ty,pos,af,none⟩)(hs:Region.noSelect ops=true)(hfree:Region.free .any ops listed i=true)(hr:(Region.ready .any ops listed).contains i=true)
  (hy:OpY C ⟨some d,op,ty,pos,af,none⟩ fr true (cells l) v) (hm:∀x,x∈l→x∈St.l0) (hV:∀w,Inv C.w0 C.S cs w→cells St.l0 w) (hd:Nat.blt d C.N=true)
  (h:WA C St ops Q fuel (listed.setIfInBounds i true) ((d,v)::fr) cs):WA C St ops Q (fuel+1) listed fr cs:=fun a w hf hi'=>
 i5 (V:=cells St.l0) (fun _ _ hp h x hx=>hp _ _ (h x hx)) hi (Region.noSelect_spec hs) (fun _ _ _ h=>h) fuel listed a w (fun j oj hj hne hun hno=>⟨Region.free_spec hi hfree j oj hj hne hun hno,.inr (.inr fun _ _ h=>h)⟩)
  (by simpa using hr) (iP (g:=true) fy (fun a w hf hV hg=>hy a w hf (fun x hx=>hV _ (hm x hx)) hg) hf) (hV w hi') (h _ w (hf.put (by simpa[Nat.blt_eq]using hd) _) hi')
theorem fY{bb:Nat}{xs:List Value}:∀x,x∈eJ ⟨bb,0,none⟩ 0 xs→x∈qY bb xs:=fun x hx=>by
 obtain⟨j,h1,h2⟩:=gC hx;obtain⟨ad,v⟩:=x;dsimp only at h1 h2;have:=mH (bb:=bb) h1;rw[h2,Addr.add_lit,bl,bl];exact this
end
open Go.RowKit Go.ChangeShapes Go.WideShapes
theorem tN{P:Program}{w:World}{name:String}{g t e n:Nat}{k:IntKind}{JR:List Int}{d:DataW Unit}(h:laidMetH P [(name,d)] w)(hp:laidMetH P [(name,d)] w=laidMet P [(name,d)] w)(hdv:d= .agg (JR.map fun x=> .lit (.int k x)))
  (hg:P.globalNamed name=some g) (ht:(P.globals[g]?).map (·.type)=some t) (hu:P.underlying t=some (.array n e)) (he:P.underlying e=some (.int k)) (hc:P.cellsOf e=1) (hn:JR.length=n) (hm:n≤maxLen):RdV w 1 (some ⟨g,0,none⟩) n n (ints k JR):=by
 rw[hp]at h;obtain⟨ps,⟨g0,t0,cs,f,p,q,hg0,ht0,hv0,hd0, -⟩, -, -⟩:=h;obtain rfl:=aD (hg.symm.trans hg0);obtain rfl:=aD (ht.symm.trans ht0);obtain⟨xs,m, -,hx, -,hxl,hxs⟩:=DataW.trod_array hu hd0;rw[hdv]at hx;simp only[aW,DataW.agg.injEq]at hx;have hcell:∀(i:Nat) (x:Int),JR[i]? =some x→cs[i]? =some (.int k x):=fun i x hi=>by
  have hil:i<n:=by rw[←hn];exact(ar.1 hi).1
  have h1:=hxs i hil;have hxi:xs[i]? =some (xs[i]'(by omega)):=ai Wq1;rw[hxi,hc,Nat.mul_one]at h1;obtain⟨z,hz1,hz2, -⟩:=DataW.trod_int he h1;have h2:(xs.map (·.1))[i]? =some (.lit (.int k x)):=by rw[←hx.1,aZ,hi];rfl
  rw[aZ,hxi]at h2;simp only[Option.map_some,aR]at h2;rw[hz2]at h2;simp only[DataW.lit.injEq,Lit.int.injEq,true_and]at h2;subst h2;have h3:((cs.toList.drop i).take 1)[0]? =some (.int k z):=by rw[hz1];rfl
  rw[List.getElem?_take,if_pos Wq1,List.getElem?_drop]at h3;simpa using h3
 refine⟨by simp[ints,hn],aN _,hm,fun e=>(by cases e),fun ad e j u hu=>?_⟩;obtain rfl:=(aD e).symm;unfold ints at hu;rw[aZ]at hu;cases hj:JR[j]? with
 |none=>rw[hj]at hu;cases hu
 |some x=>
  rw[hj]at hu;obtain rfl:=(aD hu).symm;unfold World.var? at hv0;rw[hg]at hv0;simp only[Option.bind_some]at hv0;rw[Addr.add_lit];unfold World.cell?;cases hh:w.heap[g]? with
  |none=>rw[hh]at hv0;cases hv0
  |some o=>
   rw[hh]at hv0;cases o with
   |cells c el fz=>
    obtain rfl:=aD hv0;simpa using hcell j x hj
   |_=>cases hv0
set_option maxRecDepth 100000 in
theorem wc{C:Checked}{os:Os}{f:FuncId}{fn:Func}{s:ChangeSpec}{ts:List TypeId}{tb:TypeId}{H:Type}{enc:TypeId×Value→H}{laid:List (String×DataW Unit)}
  (own:ownKnob C.prog.godebug=none) (started:os.Started) (noInit:C.prog.inits.idxOf? f=none) (hfn:C.prog.funcs[f]? =some fn)
  (witness:∃(w:World) (tape:Tape) (i:Input),w.os=os∧(w.forCall tape i).Shaped C.prog∧i.vars=[]∧Input.okWide C.prog (w.forCall tape i) .any w.heap.size f i∧
   ((s.pre enc C.prog fn [] false (w.forCall tape i).memory i.args∧laidMetH C.prog laid (w.forCall tape i).memory)∧sizedMet enc C.prog fn (OpenSpec.ofChange s) false (w.forCall tape i).memory i.args)∧({}:Assume).holds C.prog (lone (Frame.enter C.prog f i.args .normal) [] (w.forCall tape i)))
  (hts:fn.params=ts.toArray) (hres:fn.resultTypes= #[tb]) (hb:C.prog.underlying tb=some .bool) (hvars:s.vars=[])
  (hs:∀ds:List (DataW H),ds.length=ts.length→s.fn H (ds++[])={results:=[.lit (.bool true)],args:=ds})
  (hl:laidOutB C.prog=true) (hread:ts.all (fun t=>C.prog.readableRec t&&decide (t<C.prog.types.size))=true)
  (walk:∀(W:World) (vs:List Value),Args C.prog W ts vs→laidMetH C.prog laid W→Calls C.prog f vs.toArray W fun e W'=>e= .returned (.bool true)∧Below W.heap.size W W'):
  ReturnsInHanded {} C os f .any (fun w args=>(s.pre enc C.prog fn [] false w args∧laidMetH C.prog laid w)∧sizedMet enc C.prog fn (OpenSpec.ofChange s) false w args) (s.post enc C.prog fn false true false false):=by
 refine returnsInHanded_of_change_and (C:=C) (X:=fun w _=>laidMetH C.prog laid w) (fun _ _ _ hh h=>h.of_heap hh) own started noInit hfn witness ?_;intro W base args ds gs before hval hW hcnd hsz hX _;have hW':=hW;obtain⟨p,q,hA,hV,rfl,hfz,hnd⟩:=hW;obtain⟨rfl,rfl⟩:gs=[]∧q=[]:=by
  rw[hvars]at hV;cases gs with
  |nil=>exact⟨rfl,hV⟩
  |cons g gs=>exact absurd hV (by simp[DataW.TrodVars])
 have hA':DataW.TrodAll enc C.prog W 0 (fun _=>true) true ts args.toList ds p:=by
  rw[hts]at hA;exact hA
 have hsz':∀m∈DataW.weightsEach C.prog ts ds,m≤reachBytes:=by
  have e:fn.params.toList++s.plain.varTypes C.prog=ts:=by simp[hts,DataSpec.varTypes,ChangeSpec.plain,hvars]
  rw[e,ax]at hsz;intro m hm;have:=bE.1 hsz m hm;simpa using this
 have hval':∀(j:Nat) t v,ts[j]? =some t→args.toList[j]? =some v→Value.okWide C.prog W .any base t v:=fun j t v h1 h2=>hval j t v (by rw[hts];simpa using h1) (by simpa using h2)
 have hw:=walk W args.toList (FA hA' hval' hsz') hX;rw[Array.toArray_toList]at hw;refine hw.mono fun e W' hh=>?_
 obtain⟨rfl,bel⟩:=hh;have hspec:=hs ds (qN hA');refine⟨_,rfl,ds,[],p++[],[],p,[],hW',?_,?_,?_,?_,fun h=>by cases h⟩
 ·rw[hspec,hres];exact trodAll_mk1 (shut_bool hb _)
 ·rw[hspec,hts];exact nT hl bel hread hA'
 ·rw[hspec,hvars]
  rfl
 exact bel.frame _
end Go.Ink
