/- Lemmas. -/
import Derived.Test.YtgpahfcaecojgaaGreatDoorPab
import Derived.Laws.StructEq
import Derived.LaidMore
import Derived.OpenShut
import Derived.Handed
import Derived.Stop.Joined
set_option linter.all false
set_option maxRecDepth 100000
set_option maxHeartbeats 4000000
namespace Go.Ink
open Go.RowKit
variable{w:World}{n:Nat}{xs:List Value}
theorem iP{sz c:Nat}{A:Oa}(h:RdV w sz A n c xs):∃w,RdV w sz A n c xs:=⟨w,h⟩
def EqV(P:Program)(k:Nat)(T:TypeId)(a b:Value):Prop:=∀w:World,(Op.equalIn k T a b).run P w= .ok true w
def EqF(P:Program)(k:Nat)(xs ys:Array Value)(fs:List Field):Prop:=∀w:World,(Op.eqFields k xs ys fs).run P w= .ok true w
section
variable {P:Program} {k:Nat} {T:TypeId}
theorem EqF.nil{xs ys:Array Value}:EqF P k xs ys []:=λw=>rfl
theorem EqF.cons{xs ys:Array Value}{f:Field}{fs:List Field}{a b:Value}(hn:f.name≠ "_")(ha:∀w,(part f.type xs f.offset).run P w= .ok a w)(hb:∀w,(part f.type ys f.offset).run P w= .ok b w)(he:EqV P k f.type a b)(h:EqF P k xs ys fs):EqF P k xs ys (f::fs):=λw=>by
 simp only[Op.eqFields,if_pos hn,Sem.run_bind,ha w,hb w,Result.andThen_ok,he w,Bool.not_true,Bool.false_eq_true,if_false]
 exact h w
theorem EqV.int{kd kd':IntKind}{a:Int}(h:P.underlying T=some (.int kd')):EqV P (k+1) T (.int kd a) (.int kd a):=λw=>by
 rw[run_equalIn_int w k T kd kd' a a h,beq_self_eq_true]
theorem EqV.bool{a:Bool}(h:P.underlying T=some .bool):EqV P (k+1) T (.bool a) (.bool a):=λw=>by
 rw[run_equalIn_bool' w k T a a h,beq_self_eq_true]
theorem EqV.struct{xs ys:Array Value}(h:P.underlying T=some (.struct (P.fieldsOf T)))(hp:P.stoodInHeld T=false)(hf:EqF P k xs ys (P.fieldsOf T).toList):EqV P (k+1) T (.agg xs) (.agg ys):=λw=>by
 rw[run_equalIn_struct w k T xs ys h hp]
 exact hf w
end
section
variable {C:Cx} {fr:Fr} {d:Option Nat} {T T':TypeId} {x y:Operand} {ty:TypeId} {pos:String} {af:Array Edge} {gd:Option (Nat×Bool)} {g:Bool}
theorem y_eqlT{xs ys:Array Value}(hm:C.P.eqGuardType C.P.depth T=false)(he:EqV C.P 10000 T (.agg xs) (.agg ys))(hx:Ev fr g x (.agg xs))(hy:Ev fr g y (.agg ys)):OpY C ⟨d,.binOp .eql T x y T',ty,pos,af,gd⟩ fr g Any (.bool true):=λA w hf _ hg=>by
 simp[execOp,hx.eval hf hg,hy.eval hf hg,run_eqGuard_agg w _ _ _ _ _ _ hm,run_eql_struct,he w,Result.andThen]
end
def Bh:List Nat->Nat->Bool
 |[],_=>false
 |y::l,x=>Nat.beq y x||Bh l x
theorem mD{x:Nat}:∀{l:List Nat},Bh l x=true<->x∈l
 :=by intro y1;induction y1<;>grind [Bh,Nat.eq_of_beq_eq_true,Nat.beq_refl]
structure Sk where
 i:Nat
 k:Nat
 d:List Nat
 l:List Nat
 w:List Nat
def ql(ops:Array Oper)(p:Nat×Nat):Sk:=
 match ops[p.1]? with
 |some o=>⟨p.1,p.2,o.dst.toList,o.looksAt ops,(o.after.toList.filter (Region.binds .any)).map (·.on)⟩
 |none=>⟨p.1,9,[],[],[]⟩
def zH(x y:Sk):Bool:=x.d.all (λd=> !Bh y.l d&& !Bh y.d d)&&y.d.all (λd=> !Bh x.l d)
def chk4(st:Nat->Bool)(x:Sk):List Sk->List Nat->Bool
 |[],_=>true
 |r::rest,B=>bif r.w.any (λe=>Nat.beq e x.i||Bh B e)then chk4 st x rest (r.i::B)else zH x r&& !st r.i&&chk4 st x rest B
def PX(n:Nat)(st:Nat->Bool)(x:Sk)(rest:List Sk):Bool:=
 (x.w.all (λe=>Nat.blt e n&& !Nat.beq e x.i&&rest.all (λr=> !Nat.beq r.i e)))&&
 rest.all (λr=> !Nat.beq r.i x.i&&
  match x.k with
  |0=>Bh r.w x.i||zH x r
  |1=>Bh r.w x.i||(zH x r&& !st r.i)
  |2=>r.w.any (λe=>Nat.beq x.i e||rest.any (λq=>Nat.beq q.i e))
  |4=>true
  |_=>false)&&
 (!Nat.beq x.k 4||chk4 st x rest [])
def Chk(n:Nat)(st:Nat->Bool):List Sk->Bool
 |[]=>true
 |x::rest=>Nat.beq x.k 3||(PX n st x rest&&Chk n st rest)
structure Lst(n:Nat)(listed:Array Bool)(l:List Nat):Prop where
 size:listed.size=n
 iff:∀j,listed.getD j true=false<->j∈l
variable{i:Nat}{listed:Array Bool}{l:List Nat}
theorem Lst.step(h:Lst n listed (i::l))(hn:i∉l):Lst n (listed.setIfInBounds i true) l:=by
 refine⟨by simp[h.size],λj=>?_⟩
 have hi:=(h.iff i).2 cP
 by_cases e:i=j
 .simp_all
 have h1:=h.iff j
 simp only[Array.getD_eq_getD_getElem?,Array.getElem?_setIfInBounds_ne e]at h1|-
 grind
theorem Lst.set{l':List Nat}(h:Lst n listed l)(hs:∀j,j∈l<->j∈l'):Lst n listed l':=⟨h.size,λj=>(h.iff j).trans (hs j)⟩
def SkOk(ops:Array Oper)(x:Sk)(o:Oper):Prop:=x.d=o.dst.toList/\x.l=o.looksAt ops/\x.w=(o.after.toList.filter (Region.binds .any)).map (·.on)
variable{ops:Array Oper}{p:Nat×Nat}{o:Oper}
theorem mq(h:ops[p.1]? =some o):(ql ops p).i=p.1/\(ql ops p).k=p.2/\SkOk ops (ql ops p) o:=by
 unfold ql
 rw[h]
 exact⟨rfl,rfl,rfl,rfl,rfl⟩
theorem He:(ql ops p).i=p.1:=by
 grind [ql]
theorem tB{x y:Sk}{ox oy:Oper}(hx:SkOk ops x ox)(hy:SkOk ops y oy)(h:zH x y=true):ox.apart ops oy=true:=by
 obtain⟨hx1,hx2, -⟩:=hx
 obtain⟨hy1,hy2, -⟩:=hy
 grind [zH,mD,Oper.apart]
theorem lL{x:Sk}(h:SkOk ops x o){e:Nat}:e∈x.w<->∃z,z∈o.after/\Region.binds .any z=true/\z.on=e:=by
 rw[h.2.2]
 grind
theorem wY{st:Nat->Bool}{x:Sk}:∀(rest:List Sk) (B0:List Nat),chk4 st x rest B0=true->∃B:List Nat,(∀b,b∈B0->b∈B)/\(∀r,r∈rest->r.i∉B->zH x r=true/\st r.i=false)/\(∀b,b∈B->b∈B0\/∃r,r∈rest/\r.i=b/\∃e,e∈r.w/\(e=x.i\/e∈B))
 |[],B0,_=>⟨B0,λ_ h=>h,(λr h=>by cases h),λb h=> .inl h⟩
 |r::rest,B0,h=>by
  unfold chk4 at h
  cases hw:r.w.any (λe=>Nat.beq e x.i||Bh B0 e)with
  |true=>
   rw[hw,ai]at h
   obtain⟨B,h1,h2,h3⟩:=wY rest _ h
   obtain⟨e,he,hx⟩:=List.any_eq_true.1 hw
   refine⟨B,λb hb=>h1 b (List.mem_cons_of_mem _ hb),λq hq hn=>?_,λb hb=>?_⟩
   .grind
   grind [mD,Nat.eq_of_beq_eq_true,List.mem_cons_of_mem]
  |false=>
   rw[hw,ah,au,au,Bool.not_eq_true']at h
   obtain⟨B,h1,h2,h3⟩:=wY rest _ h.2
   refine⟨B,h1,λq hq hn=>?_,λb hb=>?_⟩
   .grind
   grind
section
variable {P:Program} {ops:Array Oper} {Q:lF} {md:Region.Mode} {St:Dr}
theorem Q1(h0:listed.getD i true=false):¬(listed.getD i false=true):=by grind
theorem zS{oi:Oper}{v:Value}{V:World->Prop}(B:List Nat)(hV:∀w w',zM w w'->V w->V w')(hi:ops[i]? =some oi)(hsel:∀(j:Nat) (o:Oper) cs b,ops[j]? =some o->o.op≠ .select cs b)
  (hQ:∀c a w,Q (.panic c) (a.put oi.dst v) w->Q (.panic c) a w):
  ∀(fuel:Nat) (listed:Array Bool) (a:Act) (w:World),
   (∀b,b∈B->listed.getD b true=false/\∀ob,ops[b]? =some ob->∃e∈ob.after,Region.binds md e=true/\(e.on=i\/e.on∈B))->
   (∀j oj,ops[j]? =some oj->j≠i->listed.getD j true=false->j∉B->oi.apart ops oj=true/\St.st j=false)->
   i∈Region.ready md ops listed->YieldsIf P ops V oi v a->V w->
   sO P md ops Q St fuel (listed.setIfInBounds i true) (a.put oi.dst v) w->sO P md ops Q St (fuel+1) listed a w:=by
 intro fuel
 induction fuel with
 |zero=>
  intro listed a w _ _ hr hy hS H
  refine⟨λh=>bY,λj hj=>?_⟩
  by_cases hji:j=i
  .exact UI
  have:=ready_mono hj hji
  rw[H.1]at this
  cases this
 |succ fuel ih=>
  intro listed a w hB hfree hr hy hS H
  refine⟨λh=>bY,λj hj=>?_⟩
  by_cases hji:j=i
  .exact UI
  have h1:=H.2 j (ready_mono hj hji)
  obtain⟨hjun,oj,hoj,hall⟩:=mem_ready.1 hj
  have hjB:j∉B:=λhm=>by
   grind [Q1,mem_ready]
  obtain⟨hap,hst⟩:=hfree j oj hoj hji hjun hjB
  have h2:=wpOp_putIf hoj hap (λcs b=>hsel i oi cs b hi) (λcs b=>hsel j oj cs b hoj) hQ hy h1
  have hB':∀b,b∈B->(listed.setIfInBounds j true).getD b true=false/\∀ob,ops[b]? =some ob->∃e∈ob.after,Region.binds md e=true/\(e.on=i\/e.on∈B):=λb hb=>by
   refine⟨?_,(hB b hb).2⟩
   have hne:¬j=b:=λe=>hjB bY
   simp_all
  have hfree':∀k ok,ops[k]? =some ok->k≠i->(listed.setIfInBounds j true).getD k true=false->k∉B->oi.apart ops ok=true/\St.st k=false:=λk ok hk hki hun hno=>by
   refine hfree k ok hk hki ?_ hno
   by_cases hjk:j=k
   .grind
   simp_all
  grind [wpOp_mono,ready_mono,Array.setIfInBounds_comm]
end
section
variable {ops:Array Oper} {st:Nat->Bool} {i k:Nat} {s:List (Nat×Nat)} {listed:Array Bool} {oi:Oper}
theorem oL{j:Nat}(h:j∈s.map (·.1)):∃q,q∈s.map (ql ops)/\q.i=j/\∀o,ops[j]? =some o->SkOk ops q o:=by
 obtain⟨p,hp,rfl⟩:=aZ.1 h
 exact⟨ql ops p,aZ.2 ⟨p,hp,rfl⟩,He,λo ho=>(mq ho).2.2⟩
theorem Hd{q:Sk}(h:q∈s.map (ql ops)):q.i∈s.map (·.1):=by
 grind [He]
theorem wX(hi:ops[i]? =some oi)(hL:Lst ops.size listed (((i,k)::s).map (·.1)))(hc:PX ops.size st (ql ops (i,k)) (s.map (ql ops))=true):i∈Region.ready .any ops listed:=by
 obtain⟨e1, -,hk⟩:=mq (p:=(i,k)) hi
 have e1:(ql ops (i,k)).i=i:=e1
 simp only[PX,au,aQ]at hc
 rw[mem_ready]
 refine⟨(hL.iff i).2 cP,oi,hi,λe he hb=>?_⟩
 obtain⟨⟨h1,h2⟩,h3⟩:=hc.1.1 e.on ((lL hk).2 ⟨e,he,hb,rfl⟩)
 have hlt:e.on<ops.size:=by simpa[Nat.blt_eq]using h1
 have hne:e.on≠i:=by
  intro h
  rw[e1,h]at h2
  simp at h2
 cases hg:listed.getD e.on true with
 |true=>
  grind [hL.size]
 |false=>
  have:=(hL.iff e.on).1 hg
  simp only[List.map_cons,aJ,hne,false_or]at this
  obtain⟨q,hq,e3, -⟩:=oL (ops:=ops) this
  have:=h3 q hq
  simp_all
theorem Gn(hc:PX ops.size st (ql ops (i,k)) (s.map (ql ops))=true):i∉s.map (·.1):=λh=>by
 simp only[PX,au,aQ]at hc
 obtain⟨q,hq,e3, -⟩:=oL (ops:=ops) h
 have:=(hc.1.2 q hq).1
 simp_all [He]
theorem TT(hi:ops[i]? =some oi)(hL:Lst ops.size listed (((i,k)::s).map (·.1)))(hc:PX ops.size st (ql ops (i,k)) (s.map (ql ops))=true)(hk:k=0\/k=1)(j:Nat)(oj:Oper)
  (hj:ops[j]? =some oj) (hne:j≠i) (hun:listed.getD j true=false) (hno:∀e∈oj.after,Region.binds .any e=true->e.on≠i):oi.apart ops oj=true/\(k=1->st j=false):=by
 have hjm:=(hL.iff j).1 hun
 simp only[List.map_cons,aJ,hne,false_or]at hjm
 obtain⟨q,hq,e3,e4⟩:=oL (ops:=ops) hjm
 have hq4:=e4 oj hj
 obtain⟨e1,e2,hkx⟩:=mq (p:=(i,k)) hi
 simp only[PX,au,aQ]at hc
 have h1:=(hc.1.2 q hq).2
 grind [Bh,lL,mD,tB]
theorem TS(hi:ops[i]? =some oi)(hL:Lst ops.size listed (((i,2)::s).map (·.1)))(hc:PX ops.size st (ql ops (i,2)) (s.map (ql ops))=true)(j:Nat)(hj:j∈Region.ready .any ops listed):j=i:=by
 obtain⟨hun,oj,hoj,hall⟩:=mem_ready.1 hj
 have hjm:=(hL.iff j).1 hun
 simp only[List.map_cons,aJ]at hjm
 rcases hjm with h|hjm
 .exact h
 exfalso
 obtain⟨q,hq,e3,e4⟩:=oL (ops:=ops) hjm
 obtain⟨e1,e2,hkx⟩:=mq (p:=(i,2)) hi
 simp only[PX,au,aQ]at hc
 have h1:=(hc.1.2 q hq).2
 rw[e2,e1]at h1
 obtain⟨e,he,h2⟩:=List.any_eq_true.1 h1
 obtain⟨z,z1,z2,z3⟩:=(lL (e4 oj hoj)).1 he
 have hz:=hall z z1 z2
 rw[z3]at hz
 have hin:e∈((i,2)::s).map (·.1):=by
  simp only[bn,List.any_eq_true]at h2
  rcases h2 with h2|⟨q2,hq2,h2⟩
  .simp_all
  grind [Hd,Nat.eq_of_beq_eq_true]
 have hf:=(hL.iff e).2 hin
 grind
end
def WS(C:Cx)(St:Dr)(ops:Array Oper)(Q:lF)(s:List (Nat×Nat))(fr:Fr)(cs:List bJ):Prop:=
 ∀fuel listed,s.length<=fuel->Lst ops.size listed (s.map (·.1))->Chk ops.size St.st (s.map (ql ops))=true->Region.noSelect ops=true->WA C St ops Q fuel listed fr cs
def WSI(C:Cx)(St:Dr)(ops:Array Oper)(Q:lF)(i:Nat)(s:List (Nat×Nat))(fr:Fr)(cs:List bJ):Prop:=
 ∀fuel listed,s.length<=fuel->Lst ops.size (listed.setIfInBounds i true) (s.map (·.1))->Chk ops.size St.st (s.map (ql ops))=true->Region.noSelect ops=true->WI C St ops Q fuel listed i fr cs
section
variable {C:Cx} {Q:lF} {fr:Fr} {cs:List bJ} {ops:Array Oper} {d:Nat} {op:Op} {ty:TypeId} {pos:String} {af:Array Edge} {gd:Option (Nat×Bool)} {V:World->Prop} {v:Value} {g:Bool}
 {St:Dr} {i:Nat} {s:List (Nat×Nat)}
def Sched(ops:Array Oper)(st:Nat->Bool)(s:List (Nat×Nat)):Bool:=
 Region.noSelect ops&&Nat.ble s.length ops.size&&(List.range ops.size).all (λj=>Bh (s.map (·.1)) j)&&s.all (λp=>Nat.blt p.1 ops.size)&&Chk ops.size st (s.map (ql ops))
theorem gP{id:Nat}{l:List Oper}(St:Dr)(s:List (Nat×Nat))(hm:C.P.follows .mixedOrders=true)(hc:Sched l.toArray St.st s=true)(h:WS C St l.toArray Q s fr cs):WC C (.region id l.toArray true) Q fr cs:=by
 simp only[Sched,au,aQ,List.mem_range,mD,Nat.blt_eq,Nat.ble_eq]at hc
 obtain⟨⟨⟨⟨h1,h2⟩,h3⟩,h4⟩,h5⟩:=hc
 refine bU St hm (h _ _ Wq1 ⟨by simp,λj=>?_⟩ h5 h1)
 constructor
 .grind
 intro hj
 obtain⟨p,hp,rfl⟩:=aZ.1 hj
 have:=h4 p hp
 simp_all
theorem i6(h:QOk C Q .normal fr cs):WS C St ops Q [] fr cs:=λfuel listed _ hL _ _=>Me (by
 refine List.eq_nil_iff_forall_not_mem.2 λj hj=>?_
 have:=(hL.iff j).1 (mem_ready.1 hj).1
 cases this) h
theorem BN{x:Sk}{rest:List Sk}{st:Nat->Bool}(h:Chk n st (x::rest)=true)(hk:x.k≠3):PX n st x rest=true/\Chk n st rest=true:=by
 simp_all [Chk]
theorem GU{k:Nat}(hk:k=0\/k=1)(hV:∀w w',zM w w'->V w->V w')(hi:ops[i]? =some ⟨some d,op,ty,pos,af,gd⟩)(hg:bN ops fr ⟨some d,op,ty,pos,af,gd⟩ g)(hy:OpY C ⟨some d,op,ty,pos,af,gd⟩ fr g V v)
  (hcl:(∀w,V w)\/k=1\/(∀w w',(cells St.l0 w->cells St.l0 w')->V w->V w')) (hW:∀w,Inv C.w0 C.S cs w->V w) (hd:Nat.blt d C.N=true)
  (h:WS C St ops Q s ((d,bif g then v else undef)::fr) cs):WS C St ops Q ((i,k)::s) fr cs:=λfuel listed hf hL hc hn=>by
 obtain⟨e1,e2,e3⟩:=mq (p:=(i,k)) hi
 have hk3:(ql ops (i,k)).k≠3:=by rw[e2];rcases hk with rfl|rfl;exact(by decide:(0:Nat)≠3);exact(by decide:(1:Nat)≠3)
 obtain⟨c1,c2⟩:=BN hc hk3
 have hL2:=hL.step (Gn c1)
 obtain⟨fuel,rfl⟩:∃m,fuel=m+1:=⟨fuel - 1,by grind⟩
 have h2:=h fuel _ bY hL2 c2 hn
 exact λa w hfr hi'=>jo (V:=V) hV hi (Region.noSelect_spec hn) (λ_ _ _ h=>h) fuel listed a w
  (λj oj hj hne hun hno=>by
   grind [TT])
  (wX hi hL c1) (i4 hg hy hfr) (hW w hi') (h2 _ w (hfr.put kS _) hi')
theorem ws_y(hi:ops[i]? =some ⟨some d,op,ty,pos,af,gd⟩)(hg:bN ops fr ⟨some d,op,ty,pos,af,gd⟩ g)(hy:OpY C ⟨some d,op,ty,pos,af,gd⟩ fr g Any v)(hd:Nat.blt d C.N=true)
  (h:WS C St ops Q s ((d,bif g then v else undef)::fr) cs):WS C St ops Q ((i,0)::s) fr cs:=
 GU (.inl rfl) (λ_ _ _ h=>h) hi hg hy (.inl λ_=>trivial) (λ_ _=>trivial) hd h
theorem dH(hi:ops[i]? =some ⟨some d,op,ty,pos,af,none⟩)(hy:OpY C ⟨some d,op,ty,pos,af,none⟩ fr true Any v)(hd:Nat.blt d C.N=true)
  (h:WS C St ops Q s ((d,v)::fr) cs):WS C St ops Q ((i,0)::s) fr cs:=ws_y hi fE hy hd h
variable{l:List (Addr×Value)}
theorem ws_l(hi:ops[i]? =some ⟨some d,op,ty,pos,af,gd⟩)(hg:bN ops fr ⟨some d,op,ty,pos,af,gd⟩ g)(hy:OpY C ⟨some d,op,ty,pos,af,gd⟩ fr g (cells l) v)(hV:∀w,Inv C.w0 C.S cs w->cells l w)(hd:Nat.blt d C.N=true)
  (h:WS C St ops Q s ((d,bif g then v else undef)::fr) cs):WS C St ops Q ((i,1)::s) fr cs:=
 GU (.inr rfl) (λ_ _ hp h x hx=>hp _ _ (h x hx)) hi hg hy (.inr (.inl rfl)) hV hd h
theorem uY(hi:ops[i]? =some ⟨some d,op,ty,pos,af,none⟩)(hy:OpY C ⟨some d,op,ty,pos,af,none⟩ fr true (cells l) v)(hV:∀w,Inv C.w0 C.S cs w->cells l w)(hd:Nat.blt d C.N=true)
  (h:WS C St ops Q s ((d,v)::fr) cs):WS C St ops Q ((i,1)::s) fr cs:=ws_l hi fE hy hV hd h
theorem rA{T:TypeId}{x:Operand}{bb t:Nat}(hi:ops[i]? =some ⟨some d,.load T x,ty,pos,af,none⟩)(hc:Has cs (row bb xs t))(hT:∀w,(isAgg T).run C.P w= .ok true w)(hs:∀w,(sizeOf T).run C.P w= .ok xs.length w)(hx:Ev fr true x (.p bb))(hd:Nat.blt d C.N=true)
  (h:WS C St ops Q s ((d,.agg xs.toArray)::fr) cs):WS C St ops Q ((i,1)::s) fr cs:=uY hi (bW hT hs hx) (zh hc) hd h
theorem ws_l4(hi:ops[i]? =some ⟨some d,op,ty,pos,af,gd⟩)(hg:bN ops fr ⟨some d,op,ty,pos,af,gd⟩ g)(hy:OpY C ⟨some d,op,ty,pos,af,gd⟩ fr g (cells l) v)(hV:∀w,Inv C.w0 C.S cs w->cells l w)(hd:Nat.blt d C.N=true)
  (h:WS C St ops Q s ((d,bif g then v else undef)::fr) cs):WS C St ops Q ((i,4)::s) fr cs:=λfuel listed hf hL hc hn=>by
 obtain⟨e1,e2,e3⟩:=mq (p:=(i,4)) hi
 have hk3:(ql ops (i,4)).k≠3:=by rw[e2];exact(by decide:(4:Nat)≠3)
 obtain⟨c1,c2⟩:=BN hc hk3
 have hnew:=Gn c1
 have hL2:=hL.step hnew
 have h4:chk4 St.st (ql ops (i,4)) (s.map (ql ops)) []=true:=by
  have c3:=c1
  simp only[PX,au,e2]at c3
  simpa using c3.2
 obtain⟨B, -,b2,b3⟩:=wY _ _ h4
 obtain⟨fuel,rfl⟩:∃m,fuel=m+1:=⟨fuel - 1,by grind⟩
 have h2:=h fuel _ bY hL2 c2 hn
 have hin:∀b,b∈s.map (·.1)->listed.getD b true=false:=λb hb=>(hL.iff b).2 bY
 exact λa w hfr hi'=>zS (V:=cells l) B (λ_ _ hp h x hx=>hp _ _ (h x hx)) hi (Region.noSelect_spec hn) (λ_ _ _ h=>h) fuel listed a w
  (λb hb=>by
   rcases b3 b hb with h5|⟨r,hr,rfl,e,he,hx⟩
   ·cases h5
   obtain⟨p,hp,rfl⟩:=aZ.1 hr
   refine⟨hin _ (Hd (aZ.2 ⟨p,hp,rfl⟩)),λob hob=>?_⟩
   rw[He]at hob
   obtain⟨z,z1,z2,z3⟩:=(lL (mq hob).2.2).1 he
   grind)
  (λj oj hj hne hun hno=>by
   have hjm:=(hL.iff j).1 hun
   simp only[List.map_cons,aJ,hne,false_or]at hjm
   obtain⟨q,hq,q3,q4⟩:=oL (ops:=ops) hjm
   grind [tB])
  (wX hi hL c1) (i4 hg hy hfr) (hV w hi') (h2 _ w (hfr.put kS _) hi')
theorem kw(hi:ops[i]? =some ⟨some d,op,ty,pos,af,none⟩)(hy:OpY C ⟨some d,op,ty,pos,af,none⟩ fr true (cells l) v)(hV:∀w,Inv C.w0 C.S cs w->cells l w)(hd:Nat.blt d C.N=true)
  (h:WS C St ops Q s ((d,v)::fr) cs):WS C St ops Q ((i,4)::s) fr cs:=ws_l4 hi fE hy hV hd h
theorem EX{T:TypeId}{x:Operand}{bb t:Nat}(hi:ops[i]? =some ⟨some d,.load T x,ty,pos,af,none⟩)(hc:Has cs (row bb xs t))(hT:∀w,(isAgg T).run C.P w= .ok true w)(hs:∀w,(sizeOf T).run C.P w= .ok xs.length w)(hx:Ev fr true x (.p bb))(hd:Nat.blt d C.N=true)
  (h:WS C St ops Q s ((d,.agg xs.toArray)::fr) cs):WS C St ops Q ((i,4)::s) fr cs:=kw hi (bW hT hs hx) (zh hc) hd h
theorem QK{oi:Oper}(hi:ops[i]? =some oi)(h:WSI C St ops Q i s fr cs):WS C St ops Q ((i,2)::s) fr cs:=λfuel listed hf hL hc hn=>by
 obtain⟨e1,e2,e3⟩:=mq (p:=(i,2)) hi
 have hk3:(ql ops (i,2)).k≠3:=by rw[e2];exact(by decide:(2:Nat)≠3)
 obtain⟨c1,c2⟩:=BN hc hk3
 have hr:=wX hi hL c1
 obtain⟨fuel,rfl⟩:∃m,fuel=m+1:=⟨fuel - 1,by grind⟩
 have h2:=h fuel listed bY (hL.step (Gn c1)) c2 hn
 exact λa w hfr hi'=>⟨λh0=>bY,λj hj=>by
  have:=TS hi hL c1 j hj
  subst this
  exact h2 a w hfr hi'⟩
inductive Ways (C:Cx) (St:Dr) (ops:Array Oper) (Q:lF) (fr:Fr) (cs:List bJ):List (Nat×List (Nat×Nat))->Prop
 |nil:Ways C St ops Q fr cs []
 |cons {i:Nat} {s:List (Nat×Nat)} {L:List (Nat×List (Nat×Nat))} (h:WSI C St ops Q i s fr cs) (t:Ways C St ops Q fr cs L):Ways C St ops Q fr cs ((i,s)::L)
theorem Ways.get{L:List (Nat×List (Nat×Nat))}(h:Ways C St ops Q fr cs L):∀p,p∈L->WSI C St ops Q p.1 p.2 fr cs:=by
 induction h with
 |nil=>grind
 |cons h _ ih=>
  grind
def Forks(ops:Array Oper)(st:Nat->Bool)(s:List (Nat×Nat))(L:List (Nat×List (Nat×Nat))):Bool:=
 (s.map (ql ops)).all (λq=>Bh (L.map (·.1)) q.i||q.w.any (λe=>Bh (s.map (·.1)) e))&&
 L.all (λp=>Nat.blt p.2.length s.length&&Bh (s.map (·.1)) p.1&& !Bh (p.2.map (·.1)) p.1&&s.all (λq=>Nat.beq q.1 p.1||Bh (p.2.map (·.1)) q.1)&&p.2.all (λq=>Bh (s.map (·.1)) q.1)&&Chk ops.size st (p.2.map (ql ops)))&&
 !L.isEmpty&&(L.all λp=>((ql ops (p.1,0)).w.all λe=>Nat.blt e ops.size&& !Bh (s.map (·.1)) e)&&Nat.blt p.1 ops.size)
theorem LY(L:List (Nat×List (Nat×Nat)))(hc:Forks ops St.st s L=true)(h:Ways C St ops Q fr cs L):WS C St ops Q s fr cs:=λfuel listed hf hL _ hn=>by
 simp only[Forks,au,aQ,mD,Nat.blt_eq,bn,List.any_eq_true,Bool.not_eq_true']at hc
 obtain⟨⟨⟨c1,c2⟩,c3⟩,c4⟩:=hc
 have hs0:s≠[]:=by
  intro e
  cases L with
  |nil=>cases c3
  |cons p L=>grind
 obtain⟨fuel,rfl⟩:∃m,fuel=m+1:=⟨fuel - 1,by grind [List.length_pos_iff]⟩
 have hready:∀j,j∈Region.ready .any ops listed->j∈L.map (·.1):=λj hj=>by
  obtain⟨hun,oj,hoj,hall⟩:=mem_ready.1 hj
  obtain⟨q,hq,e3,e4⟩:=oL (ops:=ops) ((hL.iff j).1 hun)
  rcases c1 q hq with h1|⟨e,he,h1⟩
  .grind
  obtain⟨z,z1,z2,z3⟩:=(lL (e4 oj hoj)).1 he
  have hz:=hall z z1 z2
  have hf:=(hL.iff e).2 h1
  grind
 have hne:Region.ready .any ops listed≠[]:=by
  cases L with
  |nil=>cases c3
  |cons p L=>
   obtain⟨c5,c6⟩:=c4 p cP
   obtain⟨⟨⟨⟨⟨d1,d2⟩,d3⟩,d4⟩,d5⟩,d6⟩:=c2 p cP
   obtain⟨o,ho⟩:∃o,ops[p.1]? =some o:=⟨_,Array.getElem?_eq_getElem c6⟩
   intro h0
   have:p.1∈Region.ready .any ops listed:=mem_ready.2 ⟨(hL.iff _).2 d2,o,ho,λe he hb=>by
    obtain⟨-, -,hk⟩:=mq (p:=(p.1,0)) ho
    obtain⟨f1,f2⟩:=c5 e.on ((lL hk).2 ⟨e,he,hb,rfl⟩)
    have f3:e.on∉s.map (·.1):=λhm=>by grind [mD]
    cases hg:listed.getD e.on true with
    |true=>
     grind [hL.size]
    |false=>exact absurd ((hL.iff e.on).1 hg) f3⟩
   grind
 intro a w hfr hi'
 refine⟨λh0=>absurd h0 hne,λj hj=>?_⟩
 obtain⟨p,hp,rfl⟩:=aZ.1 (hready j hj)
 obtain⟨⟨⟨⟨⟨d1,d2⟩,d3⟩,d4⟩,d5⟩,d6⟩:=c2 p hp
 have d3':p.1∉p.2.map (·.1):=λhm=>by grind [mD]
 refine h.get p hp fuel listed Wq1 (Lst.step (hL.set λj=>?_) d3') d6 hn a w hfr hi'
 grind [Nat.eq_of_beq_eq_true,List.mem_cons_of_mem]
variable{K:Value->List bJ->Prop}
theorem jG{st:Bool}(hi:ops[i]? =some ⟨some d,op,ty,pos,af,none⟩)(hst:St.st i=st)
  (ht:OpT C ⟨some d,op,ty,pos,af,none⟩ fr cs st K) (hJ:st=true->∀v cs',K v cs'->∀w,Inv C.w0 C.S cs' w->cells St.l0 w) (hd:Nat.blt d C.N=true) (h:∀v cs',K v cs'->WS C St ops Q s ((d,v)::fr) cs'):WSI C St ops Q i s fr cs:=λfuel listed h1 h2 h3 h4=>
 gX hi hst ht hJ hd λv cs' hk=>h v cs' hk fuel _ h1 h2 h3 h4
theorem uX{st:Bool}(hi:ops[i]? =some ⟨none,op,ty,pos,af,none⟩)(hst:St.st i=st)
  (ht:OpT C ⟨none,op,ty,pos,af,none⟩ fr cs st K) (hJ:st=true->∀v cs',K v cs'->∀w,Inv C.w0 C.S cs' w->cells St.l0 w) (h:∀v cs',K v cs'->WS C St ops Q s fr cs'):WSI C St ops Q i s fr cs:=λfuel listed h1 h2 h3 h4=>
 fy hi hst ht hJ λv cs' hk=>h v cs' hk fuel _ h1 h2 h3 h4
theorem Vk(hi:ops[i]? =some ⟨some d,op,ty,pos,af,none⟩)(hy:OpY C ⟨some d,op,ty,pos,af,none⟩ fr true V v)(hV:∀w,Inv C.w0 C.S cs w->V w)(hd:Nat.blt d C.N=true)
  (h:WS C St ops Q s ((d,v)::fr) cs):WSI C St ops Q i s fr cs:=λfuel listed h1 h2 h3 h4=>JB hi hy hV hd (h fuel _ h1 h2 h3 h4)
end
section
theorem Zrf.{u,v}{α:Sort u}{β:Sort v}{f g:α->β}(h:∀x,f x=g x:=by exact λ_=>rfl):∀x,f x=g x:=h
theorem Zgn{α:Type}(a:α):∃b,a=b:=⟨a,rfl⟩
section
variable {C:Cx} {Q:lF} {fr:Fr} {cs cs':List bJ} {ops:Array Oper} {x y:Code} {rest:List Oper} {fn:Func} {K:Value->List bJ->Prop} {K':Exit->World->Prop} {v v':Value} {d:Nat} {f:FuncId} {ty:TypeId} {pos:String} {af:Array Edge} {i fuel:Nat} {listed:Array Bool} {St:Dr} {s:List (Nat×Nat)} {l:List Operand} {vs:List Value} {ats:Array TypeId}
theorem ZJ{st:Bool}{L:List (Addr×Value)}(hl:L=[]:=by exact rfl):st=true->∀v cs',K v cs'->∀w,Inv C.w0 C.S cs' w->cells L w:=by
 subst hl
 intro _ _ _ _ _ _ _ h
 cases h
theorem ZW{o:Operand}{b:Bool}(ht:b=true->WC C x Q fr cs)(hf:b=false->WC C y Q fr cs)(hc:ev fr o=some (.bool b):=by exact rfl):WC C (.cond o x y) Q fr cs:=EZ b hc ht hf
variable{t:Nat}
theorem Zra(hk:K v [])(h0:fn.results= #[.tmp t]:=by exact rfl)(h1:look fr t=some v:=by exact rfl):QOk C (bodyPost C.P fn (Ce C.w0 C.S K)) .ret fr cs:=LH (.inl rfl) (List.nil_sublist _) h0 h1 hk
theorem Zrb(cs':List bJ)(hk:K v cs')(hs:cs'.Sublist cs:=by exact Zu)(h0:fn.results= #[.tmp t]:=by exact rfl)(h1:look fr t=some v:=by exact rfl):QOk C (bodyPost C.P fn (Ce C.w0 C.S K)) .ret fr cs:=LH (.inl rfl) hs h0 h1 hk
theorem ZcL(cin:List bJ){rs:List bJ}(hc:∀w,Inv C.w0 C.S cs w->Inv w (bK cin) cin w->Ctr C.P f vs w cin K)(h:∀v cs',(∃cout,K v cout/\cs'=cout++rs)->WL C ops Q rest ((d,v)::fr) cs')(hl:evs fr l=some vs:=by exact rfl)(hf:∀args w,(callFunc f args).run C.P w= .ok (.enter f args) w:=by exact λ_ _=>rfl)(hp:fe cin cs rs:=by exact Zi)(hd:Nat.blt d C.N=true:=by exact rfl):
  WL C ops Q (⟨some d,.call {callee:= .value (.func f),args:=l.toArray,argTypes:=ats},ty,pos,af,none⟩::rest) fr cs:=fo (dN cin hl hf hp hc) hd h
theorem ZcA(cin:List bJ){rs:List bJ}(hc:∀w,Inv C.w0 C.S cs w->Inv w (bK cin) cin w->Ctr C.P f vs w cin K)(h:∀v cs',(∃cout,K v cout/\cs'=cout++rs)->WA C St ops Q fuel (listed.setIfInBounds i true) ((d,v)::fr) cs')(hi:ops[i]? =some ⟨some d,.call {callee:= .value (.func f),args:=l.toArray,argTypes:=ats},ty,pos,af,none⟩:=by exact rfl)(hst:St.st i=true:=by exact rfl)(hl0:St.l0=[]:=by exact rfl)(hl:evs fr l=some vs:=by exact rfl)(hf:∀args w,(callFunc f args).run C.P w= .ok (.enter f args) w:=by exact λ_ _=>rfl)(hp:fe cin cs rs:=by exact Zi)(hd:Nat.blt d C.N=true:=by exact rfl):
  WI C St ops Q fuel listed i fr cs:=gX hi hst (dN cin hl hf hp hc) (ZJ hl0) hd h
theorem ZcS(cin:List bJ){rs:List bJ}(hc:∀w,Inv C.w0 C.S cs w->Inv w (bK cin) cin w->Ctr C.P f vs w cin K)(h:∀v cs',(∃cout,K v cout/\cs'=cout++rs)->WS C St ops Q s ((d,v)::fr) cs')(hi:ops[i]? =some ⟨some d,.call {callee:= .value (.func f),args:=l.toArray,argTypes:=ats},ty,pos,af,none⟩:=by exact rfl)(hst:St.st i=true:=by exact rfl)(hl0:St.l0=[]:=by exact rfl)(hl:evs fr l=some vs:=by exact rfl)(hf:∀args w,(callFunc f args).run C.P w= .ok (.enter f args) w:=by exact λ_ _=>rfl)(hp:fe cin cs rs:=by exact Zi)(hd:Nat.blt d C.N=true:=by exact rfl):
  WSI C St ops Q i s fr cs:=jG hi hst (dN cin hl hf hp hc) (ZJ hl0) hd h
theorem Zv0{x:Operand}{u:Value}{g:Bool}(h:ev fr x=some u:=by exact rfl):Ev fr g x u:=pk h
variable{k:Nat}
theorem Zfo{P:Program}{T:Nat}(h:ik P T k=some n:=by first|exact(rfl:_=some 0)|exact(rfl:_=some 1)|exact(rfl:_=some 2)|exact(rfl:_=some 3)|exact(rfl:_=some 4)|exact(rfl:_=some 5)|exact(rfl:_=some 6)|exact(rfl:_=some 7)|exact(rfl:_=some 8)|exact(rfl:_=some 9)|exact(rfl:_=some 10)|exact(rfl:_=some 11)|exact(rfl:_=some 12)|exact(rfl:_=some 13)|exact(rfl:_=some 14)|exact(rfl:_=some 15)|exact(rfl:_=some 16)|exact(rfl:_=some 17)|exact(rfl:_=some 18)|exact(rfl:_=some 19)|exact(rfl:_=some 20)|exact(rfl:_=some 21)):ik P T k=some n:=h
variable{T:TypeId}{bb r o:Nat}
theorem ZFc{x:Operand}(h:WL C ops Q rest ((d,.pointer (some ⟨bb,r,none⟩))::fr) cs)(ho:ik C.P T k=some n:=by exact Zfo)(hx:Ev fr true x (.pointer (some ⟨bb,o,none⟩)):=by exact Zev)(hr:o+n=r:=by exact Zf)(hd:Nat.blt d C.N=true:=by exact rfl):
  WL C ops Q (⟨some d,.fieldAddr T x k,ty,pos,af,none⟩::rest) fr cs:=dQ (eH n ho hx hr) (λ_ _=>trivial) hd h
theorem ZFd{x:Operand}{g:Bool}{j:Nat×Bool}(h:WL C ops Q rest ((d,bif g then .pointer (some ⟨bb,r,none⟩)else undef)::fr) cs)(hg:bN ops fr ⟨some d,.fieldAddr T x k,ty,pos,af,some j⟩ g:=by exact Zgd)(ho:ik C.P T k=some n:=by exact Zfo)(hx:Ev fr g x (.pointer (some ⟨bb,o,none⟩)):=by exact Zev)(hr:o+n=r:=by exact Zf)(hd:Nat.blt d C.N=true:=by exact rfl):
  WL C ops Q (⟨some d,.fieldAddr T x k,ty,pos,af,some j⟩::rest) fr cs:=gQ hg (eH n ho hx hr) (λ_ _=>trivial) hd h
theorem ZlR{x:Operand}(h:WL C ops Q rest ((d,.agg xs.toArray)::fr) cs)(hx:Ev fr true x (.p bb):=by exact Zev)(hc:Has cs (row bb xs t):=by exact Zh)(hT:∀w,(isAgg T).run C.P w= .ok true w:=by exact λ_=>rfl)(hs:∀w,(sizeOf T).run C.P w= .ok xs.length w:=by exact λ_=>rfl)(hd:Nat.blt d C.N=true:=by exact rfl):
  WL C ops Q (⟨some d,.load T x,ty,pos,af,none⟩::rest) fr cs:=Jy hc hT hs hx hd h
theorem ZSe{X:Value}(hc:∀w,Inv C.w0 C.S cs w->Ctr C.P f vs w [] (λv cs=>v=X/\cs=[]))(h:WL C ops Q rest ((d,X)::fr) cs)(hl:evs fr l=some vs:=by exact rfl)(hf:∀args w,(callFunc f args).run C.P w= .ok (.enter f args) w:=by exact λ_ _=>rfl)(hd:Nat.blt d C.N=true:=by exact rfl):
  WL C ops Q (⟨some d,.call {callee:= .value (.func f),args:=l.toArray,argTypes:=ats},ty,pos,af,none⟩::rest) fr cs:=ZS hc (λv cs' ⟨news,⟨h1,h2⟩,h3⟩=>by subst h1 h2;rw[aw]at h3;subst h3;exact h) hl hf hd
theorem ZcM{X:Value}(cin:List bJ){rs Y:List bJ}(hc:∀w,Inv C.w0 C.S cs w->Inv w (bK cin) cin w->Ctr C.P f vs w cin (λv cs=>v=X/\cs=Y))(h:WL C ops Q rest ((d,X)::fr) (Y++rs))(hl:evs fr l=some vs:=by exact rfl)(hf:∀args w,(callFunc f args).run C.P w= .ok (.enter f args) w:=by exact λ_ _=>rfl)(hp:fe cin cs rs:=by exact Zi)(hd:Nat.blt d C.N=true:=by exact rfl):
  WL C ops Q (⟨some d,.call {callee:= .value (.func f),args:=l.toArray,argTypes:=ats},ty,pos,af,none⟩::rest) fr cs:=ZcL cin hc (λv cs' ⟨co,⟨h1,h2⟩,h3⟩=>by subst h1 h2 h3;exact h) hl hf hp hd
end
variable {P Q:Prop}
theorem Z_1(h:Q)(f:Q->P:=by first
 |with_reducible exact λh=>Zs h|with_reducible exact λh=>Zr h|with_reducible exact λh=>Zn h|with_reducible exact λh=>Zt h|with_reducible exact λh=>Zc h|with_reducible exact λh=>Zo h|with_reducible exact λh=>Zx h|with_reducible exact λh=>Ze h|with_reducible exact λh=>Zw h|with_reducible exact λh=>Zq h|with_reducible exact λh=>wc_exit h|with_reducible exact λh=>Fs h
 |exact λh=>ZA h|exact λh=>ZFc h|exact λh=>ZC h|exact λh=>ZlR h|exact λh=>ZB h|exact λh=>ZD h|exact λh=>ZFd h
 |exact λh=>C6 rfl h|exact λh=>AP rfl h):P:=f h
theorem Z_2(h:Q)(f:Q->P:=by intro h;(iterate 2 refine Z_1 ?_);exact h):P:=f h
theorem Z_3(h:Q)(f:Q->P:=by intro h;(iterate 3 refine Z_1 ?_);exact h):P:=f h
theorem Z_4(h:Q)(f:Q->P:=by intro h;(iterate 4 refine Z_1 ?_);exact h):P:=f h
theorem Z_5(h:Q)(f:Q->P:=by intro h;(iterate 5 refine Z_1 ?_);exact h):P:=f h
theorem Z_6(h:Q)(f:Q->P:=by intro h;(iterate 6 refine Z_1 ?_);exact h):P:=f h
theorem Z_7(h:Q)(f:Q->P:=by intro h;(iterate 7 refine Z_1 ?_);exact h):P:=f h
theorem Z_8(h:Q)(f:Q->P:=by intro h;(iterate 8 refine Z_1 ?_);exact h):P:=f h
theorem Z_9(h:Q)(f:Q->P:=by intro h;(iterate 9 refine Z_1 ?_);exact h):P:=f h
theorem fH(h:Q)(f:Q->P:=by intro h;(iterate 10 refine Z_1 ?_);exact h):P:=f h
theorem gq(h:Q)(f:Q->P:=by intro h;(iterate 11 refine Z_1 ?_);exact h):P:=f h
theorem fb(h:Q)(f:Q->P:=by intro h;(iterate 12 refine Z_1 ?_);exact h):P:=f h
theorem ng(h:Q)(f:Q->P:=by intro h;(iterate 13 refine Z_1 ?_);exact h):P:=f h
theorem jl(h:Q)(f:Q->P:=by intro h;(iterate 14 refine Z_1 ?_);exact h):P:=f h
theorem oU(h:Q)(f:Q->P:=by intro h;(iterate 15 refine Z_1 ?_);exact h):P:=f h
theorem rc(h:Q)(f:Q->P:=by intro h;(iterate 16 refine Z_1 ?_);exact h):P:=f h
theorem ue(h:Q)(f:Q->P:=by intro h;(iterate 17 refine Z_1 ?_);exact h):P:=f h
theorem EU(h:Q)(f:Q->P:=by intro h;(iterate 18 refine Z_1 ?_);exact h):P:=f h
theorem Gv(h:Q)(f:Q->P:=by intro h;(iterate 19 refine Z_1 ?_);exact h):P:=f h
theorem om(h:Q)(f:Q->P:=by intro h;(iterate 20 refine Z_1 ?_);exact h):P:=f h
end
section
variable{C:Cx}{Q:lF}{fr:Fr}{cs:List bJ}{ops:Array Oper}{x y:Code}{rest:List Oper}{K:Value->List bJ->Prop}{v:Value}{d:Nat}{f:FuncId}{ty:TypeId}{pos:String}{af:Array Edge}{i fuel:Nat}{listed:Array Bool}{St:Dr}{s:List (Nat×Nat)}{l:List Operand}{vs:List Value}{ats:Array TypeId}{op:Op}{gd:Option (Nat×Bool)}{g:Bool}
variable{args:List Value}
theorem Zfn{P:Program}{fn:Func}{c:Code}{N:Nat}{cin:List bJ}(hf:P.funcs[f]? =some fn)(hn:fn.ntmps=N)(hi:Inv w (bK cin) cin w)(h:WC ⟨P,N,w,bK cin⟩ c (bodyPost P fn (Ce w (bK cin) K)) (wB 0 args) cin)(hb:fn.body=some c:=by exact rfl)(hl:Nat.ble args.length N=true:=by exact rfl):Ctr P f args w cin K:=Pc hf hb hn hl hi h
theorem Zfs{P:Program}{fn:Func}{c:Code}{N:Nat}(hf:P.funcs[f]? =some fn)(hn:fn.ntmps=N)(h:WC ⟨P,N,w,bK []⟩ c (bodyPost P fn (Ce w (bK []) K)) (wB 0 args) [])(hb:fn.body=some c:=by exact rfl)(hl:Nat.ble args.length N=true:=by exact rfl):Ctr P f args w [] K:=Pc hf hb hn hl (Inv.start w) h
theorem Zy4(i:Nat)(hi:ops[i]? =some ⟨some d,op,ty,pos,af,none⟩)(hy:OpY C ⟨some d,op,ty,pos,af,none⟩ fr true Any v)(h:WA C St ops Q fuel (listed.setIfInBounds i true) ((d,v)::fr) cs)(hs:Region.noSelect ops=true:=by exact Zk)(hfree:Region.free .any ops listed i=true:=by exact Zk)(hr:(Region.ready .any ops listed).contains i=true:=by exact Zk)(hd:Nat.blt d C.N=true:=by exact rfl):WA C St ops Q (fuel+1) listed fr cs:=gR i hi hs hfree hr hy hd h
theorem Zy5(i:Nat){l:List (Addr×Value)}(hi:ops[i]? =some ⟨some d,op,ty,pos,af,none⟩)(hy:OpY C ⟨some d,op,ty,pos,af,none⟩ fr true (cells l) v)(hV:∀w,Inv C.w0 C.S cs w->cells l w)(h:WA C St ops Q fuel (listed.setIfInBounds i true) ((d,v)::fr) cs)(hs:Region.noSelect ops=true:=by exact Zk)(hfree:Region.free .any ops listed i=true:=by exact Zk)(hst:pf .any ops St.st listed i=true:=by exact Zk)(hr:(Region.ready .any ops listed).contains i=true:=by exact Zk)(hd:Nat.blt d C.N=true:=by exact rfl):WA C St ops Q (fuel+1) listed fr cs:=po i hi hs hfree hst hr hy hV hd h
theorem Zy6(i:Nat)(hi:ops[i]? =some ⟨some d,op,ty,pos,af,gd⟩)(hg:bN ops fr ⟨some d,op,ty,pos,af,gd⟩ g)(hy:OpY C ⟨some d,op,ty,pos,af,gd⟩ fr g Any v)(h:WA C St ops Q fuel (listed.setIfInBounds i true) ((d,bif g then v else undef)::fr) cs)(hs:Region.noSelect ops=true:=by exact Zk)(hfree:Region.free .any ops listed i=true:=by exact Zk)(hr:(Region.ready .any ops listed).contains i=true:=by exact Zk)(hd:Nat.blt d C.N=true:=by exact rfl):WA C St ops Q (fuel+1) listed fr cs:=JG i hi hs hfree hr hg hy hd h
theorem Zy7(i:Nat){l:List (Addr×Value)}(hi:ops[i]? =some ⟨some d,op,ty,pos,af,gd⟩)(hg:bN ops fr ⟨some d,op,ty,pos,af,gd⟩ g)(hy:OpY C ⟨some d,op,ty,pos,af,gd⟩ fr g (cells l) v)(hV:∀w,Inv C.w0 C.S cs w->cells l w)(h:WA C St ops Q fuel (listed.setIfInBounds i true) ((d,bif g then v else undef)::fr) cs)(hs:Region.noSelect ops=true:=by exact Zk)(hfree:Region.free .any ops listed i=true:=by exact Zk)(hst:pf .any ops St.st listed i=true:=by exact Zk)(hr:(Region.ready .any ops listed).contains i=true:=by exact Zk)(hd:Nat.blt d C.N=true:=by exact rfl):WA C St ops Q (fuel+1) listed fr cs:=wa_l i hi hs hfree hst hr hg hy hV hd h
theorem ZSn(hc:∀w,Inv C.w0 C.S cs w->Ctr C.P f vs w [] K)(h:∀v n,K v n->WL C ops Q rest ((d,v)::fr) (cs++n))(hl:evs fr l=some vs:=by exact rfl)(hf:∀args w,(callFunc f args).run C.P w=.ok (.enter f args) w:=by exact λ_ _=>rfl)(hd:Nat.blt d C.N=true:=by exact rfl):WL C ops Q (⟨some d,.call {callee:=.value (.func f),args:=l.toArray,argTypes:=ats},ty,pos,af,none⟩::rest) fr cs:=ZS hc (λv _ ⟨n,k,e⟩=>e▸h v n k) hl hf hd
theorem ZTn(hc:∀w,Inv C.w0 C.S cs w->Ctr C.P f vs w [] K)(h:∀v n,K v n->WA C St ops Q fuel (listed.setIfInBounds i true) ((d,v)::fr) (cs++n))(hi:ops[i]? =some ⟨some d,.call {callee:=.value (.func f),args:=l.toArray,argTypes:=ats},ty,pos,af,none⟩:=by exact rfl)(hst:St.st i=false:=by exact rfl)(hl:evs fr l=some vs:=by exact rfl)(hf:∀args w,(callFunc f args).run C.P w=.ok (.enter f args) w:=by exact λ_ _=>rfl)(hd:Nat.blt d C.N=true:=by exact rfl):WI C St ops Q fuel listed i fr cs:=ZT hc (λv _ ⟨n,k,e⟩=>e▸h v n k) hi hst hl hf hd
theorem dy(cin:List bJ){rs:List bJ}(hc:∀w,Inv C.w0 C.S cs w->Inv w (bK cin) cin w->Ctr C.P f vs w cin K)(h:∀v n,K v n->WL C ops Q rest ((d,v)::fr) (n++rs))(hl:evs fr l=some vs:=by exact rfl)(hf:∀args w,(callFunc f args).run C.P w=.ok (.enter f args) w:=by exact λ_ _=>rfl)(hp:fe cin cs rs:=by exact Zi)(hd:Nat.blt d C.N=true:=by exact rfl):WL C ops Q (⟨some d,.call {callee:=.value (.func f),args:=l.toArray,argTypes:=ats},ty,pos,af,none⟩::rest) fr cs:=ZcL cin hc (λv _ ⟨n,k,e⟩=>e▸h v n k) hl hf hp hd
theorem tD(cin:List bJ){rs:List bJ}(hc:∀w,Inv C.w0 C.S cs w->Inv w (bK cin) cin w->Ctr C.P f vs w cin K)(h:∀v n,K v n->WA C St ops Q fuel (listed.setIfInBounds i true) ((d,v)::fr) (n++rs))(hi:ops[i]? =some ⟨some d,.call {callee:=.value (.func f),args:=l.toArray,argTypes:=ats},ty,pos,af,none⟩:=by exact rfl)(hst:St.st i=true:=by exact rfl)(hl0:St.l0=[]:=by exact rfl)(hl:evs fr l=some vs:=by exact rfl)(hf:∀args w,(callFunc f args).run C.P w=.ok (.enter f args) w:=by exact λ_ _=>rfl)(hp:fe cin cs rs:=by exact Zi)(hd:Nat.blt d C.N=true:=by exact rfl):WI C St ops Q fuel listed i fr cs:=ZcA cin hc (λv _ ⟨n,k,e⟩=>e▸h v n k) hi hst hl0 hl hf hp hd
theorem ZcSn(cin:List bJ){rs:List bJ}(hc:∀w,Inv C.w0 C.S cs w->Inv w (bK cin) cin w->Ctr C.P f vs w cin K)(h:∀v n,K v n->WS C St ops Q s ((d,v)::fr) (n++rs))(hi:ops[i]? =some ⟨some d,.call {callee:=.value (.func f),args:=l.toArray,argTypes:=ats},ty,pos,af,none⟩:=by exact rfl)(hst:St.st i=true:=by exact rfl)(hl0:St.l0=[]:=by exact rfl)(hl:evs fr l=some vs:=by exact rfl)(hf:∀args w,(callFunc f args).run C.P w=.ok (.enter f args) w:=by exact λ_ _=>rfl)(hp:fe cin cs rs:=by exact Zi)(hd:Nat.blt d C.N=true:=by exact rfl):WSI C St ops Q i s fr cs:=ZcS cin hc (λv _ ⟨n,k,e⟩=>e▸h v n k) hi hst hl0 hl hf hp hd
variable{P:Prop}{o:Operand}{b:Bool}
theorem Zw3(ht:b=true->WC C x Q fr cs)(hf:b=false->WC C y Q fr cs)(f:Zwr (WC C (.cond o x y) Q fr cs)->P:=by intro y9;exact Z_3 y9.1)(hc:ev fr o=some (.bool b):=by exact rfl):P:=f ⟨ZW ht hf hc⟩
theorem Zw5(ht:b=true->WC C x Q fr cs)(hf:b=false->WC C y Q fr cs)(f:Zwr (WC C (.cond o x y) Q fr cs)->P:=by intro y9;exact Z_5 y9.1)(hc:ev fr o=some (.bool b):=by exact rfl):P:=f ⟨ZW ht hf hc⟩
theorem Zw6(ht:b=true->WC C x Q fr cs)(hf:b=false->WC C y Q fr cs)(f:Zwr (WC C (.cond o x y) Q fr cs)->P:=by intro y9;exact Z_6 y9.1)(hc:ev fr o=some (.bool b):=by exact rfl):P:=f ⟨ZW ht hf hc⟩
theorem Zw7(ht:b=true->WC C x Q fr cs)(hf:b=false->WC C y Q fr cs)(f:Zwr (WC C (.cond o x y) Q fr cs)->P:=by intro y9;exact Z_7 y9.1)(hc:ev fr o=some (.bool b):=by exact rfl):P:=f ⟨ZW ht hf hc⟩
theorem Zw8(ht:b=true->WC C x Q fr cs)(hf:b=false->WC C y Q fr cs)(f:Zwr (WC C (.cond o x y) Q fr cs)->P:=by intro y9;exact Z_8 y9.1)(hc:ev fr o=some (.bool b):=by exact rfl):P:=f ⟨ZW ht hf hc⟩
theorem Zw9(ht:b=true->WC C x Q fr cs)(hf:b=false->WC C y Q fr cs)(f:Zwr (WC C (.cond o x y) Q fr cs)->P:=by intro y9;exact Z_9 y9.1)(hc:ev fr o=some (.bool b):=by exact rfl):P:=f ⟨ZW ht hf hc⟩
theorem mZ(ht:b=true->WC C x Q fr cs)(hf:b=false->WC C y Q fr cs)(f:Zwr (WC C (.cond o x y) Q fr cs)->P:=by intro y9;exact fH y9.1)(hc:ev fr o=some (.bool b):=by exact rfl):P:=f ⟨ZW ht hf hc⟩
theorem xL(ht:b=true->WC C x Q fr cs)(hf:b=false->WC C y Q fr cs)(f:Zwr (WC C (.cond o x y) Q fr cs)->P:=by intro y9;exact gq y9.1)(hc:ev fr o=some (.bool b):=by exact rfl):P:=f ⟨ZW ht hf hc⟩
theorem yk(ht:b=true->WC C x Q fr cs)(hf:b=false->WC C y Q fr cs)(f:Zwr (WC C (.cond o x y) Q fr cs)->P:=by intro y9;exact ng y9.1)(hc:ev fr o=some (.bool b):=by exact rfl):P:=f ⟨ZW ht hf hc⟩
theorem Cc(ht:b=true->WC C x Q fr cs)(hf:b=false->WC C y Q fr cs)(f:Zwr (WC C (.cond o x y) Q fr cs)->P:=by intro y9;exact jl y9.1)(hc:ev fr o=some (.bool b):=by exact rfl):P:=f ⟨ZW ht hf hc⟩
end
abbrev CW(P:Program)(f:FuncId)(a:List Value)(w:World)(y:Value):Prop:=Ctr P f a w [] (λv cs=>v=y/\cs=[])
abbrev CI(P:Program)(f:FuncId)(a:List Value)(X:List bJ)(K:Value->List bJ->Prop):Prop:=∀w,Inv w (bK X) X w->Ctr P f a w X K
abbrev CV(P:Program)(f:FuncId)(a:List Value)(X:List bJ)(y:Value):Prop:=∀w,Inv w (bK X) X w->Ctr P f a w X (λv cs=>v=y/\cs=X)
section
variable{C:Cx}{Q:lF}{fr:Fr}{cs:List bJ}{c:Code}
variable{σ:Type}{F:σ->Fr}{G:σ->List bJ}{ok:σ->Prop}
theorem qMP(s:σ)(ho:ok s)(hf:Wk fr (F s):=by exact Zwk)(hg:EL (G s) cs:=by exact Zj):QOk C (Exit.then (Mid C F G ok) Q) .normal fr cs:=yS s ho hf hg
theorem qMM(s:σ)(ho:ok s)(hf:Wk fr (F s):=by exact Zwk)(hg:(G s).Sublist cs:=by exact Zu):QOk C (Exit.then (Mid C F G ok) Q) .normal fr cs:=q_mid s ho hf hg
theorem wLo(F:σ->Fr)(G:σ->List bJ)(ok:σ->Prop)(μ:σ->Nat)(s0:σ)(h0:ok s0)(round:∀s,ok s->WC C c (Exit.then (Mid C F G λs'=>ok s'/\μ s'<μ s) Q) (F s) (G s))(hf:Wk fr (F s0):=by exact Zwk)(hg:(G s0).Sublist cs:=by exact Zu):WC C (.loop c) Q fr cs:=wc_loop F G ok μ s0 h0 hf hg round
theorem Zhc(k:bJ)(h:Has cs k:=by exact Zh):Has cs k:=h
theorem Zic(a:List bJ){c e:List bJ}(h:fe a c e:=by exact Zi):fe a c e:=h
abbrev Zdr(l:List Nat)(k:List (Addr×Value)):Dr:=⟨λj=>List.elem j l,k⟩
abbrev Zdn(l:List Nat):Dr:=⟨λj=>List.elem j l,[]⟩
end
structure PA where
 i:Nat
 d:Nat
 zs:List Value
 T:TypeId
def marks(listed:Array Bool)(js:List Nat):Array Bool:=js.foldl (λl i=>l.setIfInBounds i true) listed
def PAok(C:Cx)(St:Dr)(ops:Array Oper)(p:PA):Prop:=
 ∃op ty pos af,ops[p.i]? =some ⟨some p.d,op,ty,pos,af,none⟩/\St.st p.i=false/\Nat.blt p.d C.N=true/\∀fr cs,OpT C ⟨some p.d,op,ty,pos,af,none⟩ fr cs false (λv cs'=>∃b,v= .p b/\cs'=cs++[row b p.zs p.T])
section
variable {C:Cx} {Q:lF} {fr:Fr} {cs:List bJ} {ops:Array Oper} {St:Dr} {fuel:Nat} {listed:Array Bool} {pl:List PA}
structure PLok(C:Cx)(St:Dr)(ops:Array Oper)(pl:List PA)(listed:Array Bool)(fr:Fr):Prop where
 ok:∀p,p∈pl->PAok C St ops p
 fr:∀p,p∈pl->look fr p.d=none
 dn:(pl.map (·.d)).Nodup
 in_:(pl.map (·.i)).Nodup
 rd:∀p,p∈pl->p.i∈Region.ready .any ops listed
end
theorem PLok.of{C:Cx}{St:Dr}{pl:List PA}{fr:Fr}(ok:∀p,p∈pl->PAok C St ops p)(hfr:(pl.all λp=>(look fr p.d).isNone)=true)(hn:(pl.map (·.d)).Nodup/\(pl.map (·.i)).Nodup)
  (hrd:(pl.all λp=>(Region.ready .any ops listed).contains p.i)=true):PLok C St ops pl listed fr:=
 ⟨ok,λp hp=>by simpa using aQ.1 hfr p hp,hn.1,hn.2,λp hp=>by simpa using aQ.1 hrd p hp⟩
section
variable {C:Cx} {fr:Fr} {cs:List bJ} {d:Option Tmp} {ty:TypeId} {pos:String} {af:Array Edge} {gd:Option (Nat×Bool)}
end
section
variable {C:Cx} {Q:lF} {fr:Fr} {cs:List bJ} {ops:Array Oper} {d:Nat} {op:Op} {ty:TypeId} {pos:String} {af:Array Edge} {gd:Option (Nat×Bool)} {v:Value} {g:Bool} {St:Dr} {fuel:Nat} {listed:Array Bool}
theorem nl(i:Nat){l:List (Addr×Value)}(hi:ops[i]? =some ⟨some d,op,ty,pos,af,none⟩)(hs:Region.noSelect ops=true)(hfree:Region.free .any ops listed i=true)(hr:(Region.ready .any ops listed).contains i=true)
  (hy:OpY C ⟨some d,op,ty,pos,af,none⟩ fr true (cells l) v) (hm:∀x,x∈l->x∈St.l0) (hV:∀w,Inv C.w0 C.S cs w->cells St.l0 w) (hd:Nat.blt d C.N=true)
  (h:WA C St ops Q fuel (listed.setIfInBounds i true) ((d,v)::fr) cs):WA C St ops Q (fuel+1) listed fr cs:=λa w hf hi'=>
 jo (V:=cells St.l0) (λ_ _ hp h x hx=>hp _ _ (h x hx)) hi (Region.noSelect_spec hs) (λ_ _ _ h=>h) fuel listed a w (λj oj hj hne hun hno=>⟨Region.free_spec hi hfree j oj hj hne hun hno,.inr (.inr λ_ _ h=>h)⟩)
  (by simpa using hr) (i4 (g:=true) fE (λa w hf hV hg=>hy a w hf (λx hx=>hV _ (hm x hx)) hg) hf) (hV w hi') (h _ w (hf.put (by simpa[Nat.blt_eq]using hd) _) hi')
theorem dT{bb:Nat}:∀x,x∈ee ⟨bb,0,none⟩ 0 xs->x∈mU bb xs:=λx hx=>by
 obtain⟨j,h1,h2⟩:=gE hx;obtain⟨ad,v⟩:=x;dsimp only at h1 h2;have:=dg (bb:=bb) h1;rw[h2,Addr.add_lit,Nat.zero_add,Nat.zero_add];exact this
end
section
open Go.ChangeShapes Go.WideShapes
theorem fV{P:Program}{name:String}{g t e:Nat}{k:IntKind}{WE:Li}{d:DataW Unit}(h:laidMetH P [(name,d)] w)(hp:laidMetH P [(name,d)] w=laidMet P [(name,d)] w)(hdv:d= .agg (WE.map λx=> .lit (.int k x)))
  (hg:P.globalNamed name=some g) (ht:(P.globals[g]?).map (·.type)=some t) (hu:P.underlying t=some (.array n e)) (he:P.underlying e=some (.int k)) (hc:P.cellsOf e=1) (hn:WE.length=n) (hm:n<=maxLen):RdV w 1 (sA g) n n (ints k WE):=by
 rw[hp]at h;obtain⟨ps,⟨g0,t0,cs,f,p,q,hg0,ht0,hv0,hd0, -⟩, -, -⟩:=h;obtain rfl:=ay (hg.symm.trans hg0);obtain rfl:=ay (ht.symm.trans ht0);obtain⟨xs,m, -,hx, -,hxl,hxs⟩:=DataW.trod_array hu hd0;rw[hdv]at hx;simp only[bA,DataW.agg.injEq]at hx;have hcell:∀(i:Nat) (x:Int),WE[i]? =some x->cs[i]? =some (.int k x):=λi x hi=>by
  have hil:i<n:=by rw[<-hn];exact(ar.1 hi).1
  have h1:=hxs i hil;have hxi:xs[i]? =some (xs[i]'(by omega)):=ae Wq1;rw[hxi,hc,Nat.mul_one]at h1;obtain⟨z,hz1,hz2, -⟩:=DataW.trod_int he h1;have h2:(xs.map (·.1))[i]? =some (.lit (.int k x)):=by rw[<-hx.1,aX,hi];rfl
  rw[aX,hxi]at h2;simp only[Option.map_some,bo]at h2;rw[hz2]at h2;simp only[DataW.lit.injEq,Lit.int.injEq,true_and]at h2;subst h2;have h3:((cs.toList.drop i).take 1)[0]? =some (.int k z):=by rw[hz1];rfl
  rw[List.getElem?_take,if_pos Wq1,List.getElem?_drop]at h3;simpa using h3
 refine⟨by simp[ints,hn],aL _,hm,λe=>(by cases e),λad e j u hu=>?_⟩;obtain rfl:=(ay e).symm;unfold ints at hu;rw[aX]at hu;cases hj:WE[j]? with
 |none=>rw[hj]at hu;cases hu
 |some x=>
  rw[hj]at hu;obtain rfl:=(ay hu).symm;unfold World.var? at hv0;rw[hg]at hv0;simp only[Option.bind_some]at hv0;rw[Addr.add_lit];unfold World.cell?;cases hh:w.heap[g]? with
  |none=>rw[hh]at hv0;cases hv0
  |some o=>
   rw[hh]at hv0;cases o with
   |cells c el fz=>
    obtain rfl:=ay hv0;simpa using hcell j x hj
   |_=>cases hv0
set_option maxRecDepth 100000 in
theorem hH{C:Checked}{os:Os}{f:FuncId}{fn:Func}{s:ChangeSpec}{ts:List TypeId}{tb:TypeId}{H:Type}{enc:TypeId×Value->H}{laid:List (String×DataW Unit)}
  (own:ownKnob C.prog.godebug=none) (started:os.Started) (noInit:C.prog.inits.idxOf? f=none) (hfn:C.prog.funcs[f]? =some fn)
  (witness:∃(w:World) (tape:Tape) (i:Input),w.os=os/\(w.forCall tape i).Shaped C.prog/\i.vars=[]/\Input.okWide C.prog (w.forCall tape i) .any w.heap.size f i/\
   ((s.pre enc C.prog fn [] false (w.forCall tape i).memory i.args/\laidMetH C.prog laid (w.forCall tape i).memory)/\sizedMet enc C.prog fn (OpenSpec.ofChange s) false (w.forCall tape i).memory i.args)/\({}:Assume).holds C.prog (lone (Frame.enter C.prog f i.args .normal) [] (w.forCall tape i)))
  (hts:fn.params=ts.toArray) (hres:fn.resultTypes= #[tb]) (hb:C.prog.underlying tb=some .bool) (hvars:s.vars=[])
  (hs:∀ds:List (DataW H),ds.length=ts.length->s.fn H (ds++[])={results:=[.lit (.bool true)],args:=ds})
  (hl:laidOutB C.prog=true) (hread:ts.all (λt=>C.prog.readableRec t&&decide (t<C.prog.types.size))=true)
  (walk:∀(W:World) (vs:List Value),Args C.prog W ts vs->laidMetH C.prog laid W->Calls C.prog f vs.toArray W λe W'=>e= .returned (.bool true)/\Below W.heap.size W W'):
  ReturnsInHanded {} C os f .any (λw args=>(s.pre enc C.prog fn [] false w args/\laidMetH C.prog laid w)/\sizedMet enc C.prog fn (OpenSpec.ofChange s) false w args) (s.post enc C.prog fn false true false false):=by
 refine returnsInHanded_of_change_and (C:=C) (X:=λw _=>laidMetH C.prog laid w) (λ_ _ _ hh h=>h.of_heap hh) own started noInit hfn witness ?_;intro W base args ds gs before hval hW hcnd hsz hX _;have hW':=hW;obtain⟨p,q,hA,hV,rfl,hfz,hnd⟩:=hW;obtain⟨rfl,rfl⟩:gs=[]/\q=[]:=by
  rw[hvars]at hV;cases gs with
  |nil=>exact⟨rfl,hV⟩
  |cons g gs=>exact absurd hV (by simp[DataW.TrodVars])
 have hA':DataW.TrodAll enc C.prog W 0 (λ_=>true) true ts args.toList ds p:=by
  rw[hts]at hA;exact hA
 have hsz':∀m∈DataW.weightsEach C.prog ts ds,m<=reachBytes:=by
  have e:fn.params.toList++s.plain.varTypes C.prog=ts:=by simp[hts,DataSpec.varTypes,ChangeSpec.plain,hvars]
  rw[e,aw]at hsz;intro m hm;have:=aQ.1 hsz m hm;simpa using this
 have hval':∀(j:Nat) t v,ts[j]? =some t->args.toList[j]? =some v->Value.okWide C.prog W .any base t v:=λj t v h1 h2=>hval j t v (by rw[hts];simpa using h1) (by simpa using h2)
 have hw:=walk W args.toList (P8 hA' hval' hsz') hX;rw[Array.toArray_toList]at hw;refine hw.mono λe W' hh=>?_
 obtain⟨rfl,bel⟩:=hh;have hspec:=hs ds (vd hA');refine⟨_,rfl,ds,[],p++[],[],p,[],hW',?_,?_,?_,?_,λh=>by cases h⟩
 .rw[hspec,hres];exact trodAll_mk1 (shut_bool hb _)
 .rw[hspec,hts];exact qh hl bel hread hA'
 .rw[hspec,hvars]
  rfl
 exact bel.frame _
end
end Go.Ink
