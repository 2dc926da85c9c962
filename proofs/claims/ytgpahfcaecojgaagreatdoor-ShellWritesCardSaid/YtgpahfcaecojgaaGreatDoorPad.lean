/- Lemmas. -/
import Derived.Test.YtgpahfcaecojgaaGreatDoorPac
import Derived.ChangeKeysEq
import Derived.Maps.Range
import Derived.DeepKeys4
set_option linter.all false
set_option maxRecDepth 100000
set_option maxHeartbeats 4000000
namespace Go.Ink
open Go.RowKit
section
variable {C:Cx} {Q:lF} {fr:Fr} {cs cs':List bJ} {c c':bJ} {ops:Array Oper} {rest:List Oper}
end
section
variable {C:Cx} {fr:Fr} {cs:List bJ} {d:Option Tmp} {ty:TypeId} {pos:String} {af:Array Edge} {gd:Option (Nat×Bool)} {v:Value} {g:Bool} {x y:Operand} {T T':TypeId}
variable{ad:Addr}
theorem cR{r:Addr}(n:Nat){f:Nat}(ho:ik C.P T f=some n)(hx:Ev fr g x (.pointer (some ad)))(hr:ad.add n=r):OpY C ⟨d,.fieldAddr T x f,ty,pos,af,gd⟩ fr g Any (.pointer (some r)):=λA w hf _ hg=>by
 subst hr;unfold ik at ho;split at ho
 .rename_i fs hfs
  split at ho
  .rename_i fd hfd
   split at ho
   .rename_i i hi
    by_cases hz:i.size=0
    .simp[hz]at ho
    have hz':Nat.beq i.size 0=false:=by cases h':Nat.beq i.size 0 with|false=>rfl|true=>exact absurd (Nat.eq_of_beq_eq_true h') hz
    rw[hz']at ho;simp only[ah,bo]at ho;subst ho;simp[execOp,hx.eval hf hg,Instr.fieldAt,run_underlying hfs,hfd,Instr.sureAddr,fieldPlace,sizeOf,typeInfo,hi,hz]
   cases ho
  cases ho
 cases ho
variable{xs:List Value}
theorem di{w0:World}{sz n c i:Nat}(h:RdV w0 sz (some ad) n c xs)(hv:xs[i]? =some v):∀w,Inv w0 [] cs w->cells [(ad.add i,v)] w:=λw hi z hz=>by
 rw[aC]at hz;subst hz;exact(h.Wh hi).at_ ad rfl i v hv
theorem lm{w:World}{ad:Addr}{b:Nat}:∀{vs:List Value} {i:Nat},(∀j v,vs[j]? =some v->w.cell? (ad.add (b+i+j))=some v)->cells (ee (ad.add b) i vs) w
 |[],_,_=>λx hx=>by cases hx
 |u::vs,i,h=>λx hx=>by
  rcases aJ.1 hx with rfl|hx
  .show w.cell? ((ad.add b).add i)=some u;rw[cu];exact h 0 u rfl
  exact lm (vs:=vs) (i:=i+1) (λj v hj=>by
   have:=h (j+1) v (by simpa using hj);rwa[show b+i+(j+1)=b+(i+1)+j by omega]at this) x hx
theorem cE{w0:World}{sz n c b:Nat}{vs:List Value}(h:RdV w0 sz (some ad) n c xs)(hv:∀j v,vs[j]? =some v->xs[b+j]? =some v):∀w,Inv w0 [] cs w->cells (ee (ad.add b) 0 vs) w:=λw hi=>
 lm λj v hj=>by
  rw[Nat.add_zero];exact(h.Wh hi).at_ ad rfl (b+j) v (hv j v hj)
end
theorem bZ{α:Type}{f:α->List Value}{sz:Nat}(hf:∀a,(f a).length=sz):∀{xs:List α} {k i:Nat} {a:α} {v:Value},xs[k]? =some a->(f a)[i]? =some v->(xs.flatMap f)[k*sz+i]? =some v
 |[],k,i,a,v,h,_=>by simp at h
 |x::xs,0,i,a,v,h,h2=>by
  simp only[List.getElem?_cons_zero,bo]at h;subst h;have:=(ar.1 h2).1;rw[bF,Nat.zero_mul,Nat.zero_add,List.getElem?_append_left this];exact h2
 |x::xs,k+1,i,a,v,h,h2=>by
  rw[bF,List.getElem?_append_right (by rw[hf,Nat.succ_mul];omega),hf,show(k+1)*sz+i - sz=k*sz+i by rw[Nat.succ_mul];omega];exact bZ hf (by simpa using h) h2
theorem BB{α:Type}{f:α->List Value}{sz:Nat}(hf:∀a,(f a).length=sz):∀xs:List α,(xs.flatMap f).length=xs.length*sz
 |[]=>by simp
 |x::xs=>by rw[bF,aj,hf,BB hf xs,aO,Nat.succ_mul];omega
section
open Go.ChangeShapes Go.WideShapes
variable {P:Program} {w:World} {t:TypeId} {cs:List Value} {v:Value}
theorem Arg.rows{α:Type}{e:TypeId}{sz:Nat}{f:α->List Value}{Q:α->Prop}(ht:P.underlying t=some (.slice e))(hc:P.cellsOf e=sz)(hf:∀a,(f a).length=sz)(a0:α)
  (ho:∀es,Arg P w e es->∃a,es=f a/\Q a) (h:Arg P w t cs):
  ∃(A:Oa) (c:Nat) (xs:List α),cs=[.slice A xs.length c]/\RdV w sz A xs.length c (xs.flatMap f)/\(∀x,x∈xs->Q x)/\c*P.bytesOf e<=140737488351232:=by
 rcases h.slice ht with rfl|⟨a,len,cap,rfl,hl,hm,hb,hi⟩
 .exact⟨none,0,[],rfl,⟨by simp,aL _,by decide,λ_=>⟨rfl,rfl⟩,λ_ h=>by cases h⟩,(λx hx=>by cases hx),by simp⟩
 have each:∀i:Nat,∃x:α,i<cap->(∀j v,(f x)[j]? =some v->w.cell? (a.add (i*sz+j))=some v)/\Q x:=λi=>by
  by_cases hlt:i<cap
  .obtain⟨es,base,h1,h2⟩:=hi i hlt;obtain⟨x,rfl,hq⟩:=ho es h2;rw[hc]at h1;refine⟨x,λ_=>⟨λj v hj=>?_,hq⟩⟩;have hjl:=(ar.1 hj).1;rw[hf]at hjl;have:=(World.cells?_some h1).2.2 j hjl;rw[Go.Ink.cu]at this;rw[this];exact hj
  exact⟨a0,λh=>absurd h hlt⟩
 obtain⟨g,hg⟩:=Classical.axiomOfChoice each;refine⟨some a,cap,(List.range len).map g,by simp,⟨by rw[BB hf],by simpa using hl,hm,(λh=>by cases h),?_⟩,?_,hb⟩
 .intro ad e j u hu;obtain rfl:a=ad:=by simpa using e
  have hj:=(ar.1 hu).1;rw[BB hf,ax,List.length_range]at hj;by_cases hsz:sz=0
  .subst hsz;simp at hj
  have hq:j/sz<len:=(Nat.div_lt_iff_lt_mul (Nat.pos_of_ne_zero hsz)).2 hj;have hjm:j/sz*sz+j%sz=j:=Nat.div_add_mod' j sz;have hx:((List.range len).map g)[j/sz]? =some (g (j/sz)):=by rw[aX,List.getElem?_range hq];rfl
  have hr:j%sz<(f (g (j/sz))).length:=by rw[hf];exact Nat.mod_lt _ (Nat.pos_of_ne_zero hsz)
  have h1:=bZ hf hx (ae hr);rw[hjm]at h1;rw[h1]at hu;have h2:=(hg (j/sz) Wq1).1 (j%sz) _ (ae hr);rw[hjm]at h2;rw[h2,hu]
 intro x hx;simp only[aZ,List.mem_range]at hx;obtain⟨i,hi',rfl⟩:=hx;exact(hg i Wq1).2
theorem uW.rows{α:Type}{e:TypeId}{sz:Nat}{f:α->List Value}{Q:α->Prop}(ht:P.underlying t=some (.slice e))(hc:P.cellsOf e=sz)(hf:∀a,(f a).length=sz)(a0:α)
  (ho:∀es,Arg P w e es->∃a,es=f a/\Q a) (h:uW P w t v):
  ∃(A:Oa) (c:Nat) (xs:List α),v= .slice A xs.length c/\RdV w sz A xs.length c (xs.flatMap f)/\(∀x,x∈xs->Q x)/\c*P.bytesOf e<=140737488351232:=by
 obtain⟨⟨r,b,hk⟩,h⟩:=h;obtain⟨a,l,c,rfl⟩:=okWide_slice ht hk;obtain⟨A,c',xs,h1,h2⟩:=h.rows ht hc hf a0 ho;simp[Value.cells]at h1;obtain⟨rfl,rfl,rfl⟩:=h1;exact⟨_,_,_,rfl,h2⟩
end
def EqI(P:Program)(k e c:Nat)(xs ys:Array Value)(is:List Nat):Prop:=∀w:World,(Op.eqItems k e c xs ys is).run P w= .ok true w
theorem EqI.nil{P:Program}{k e c:Nat}{xs ys:Array Value}:EqI P k e c xs ys []:=λw=>rfl
theorem EqI.cons{P:Program}{k e c i:Nat}{xs ys:Array Value}{is:List Nat}{a b:Value}(ha:∀w,(part e xs (i*c)).run P w= .ok a w)(hb:∀w,(part e ys (i*c)).run P w= .ok b w)(he:EqV P k e a b)(h:EqI P k e c xs ys is):EqI P k e c xs ys (i::is):=λw=>by
 simp only[Op.eqItems,Sem.run_bind,ha w,hb w,Result.andThen_ok,he w,Bool.not_true,Bool.false_eq_true,if_false];exact h w
section
variable {C:Cx} {fr:Fr} {cs:List bJ}
theorem y_neg{g:Bool}{x:Operand}{k:IntKind}{a r:Int}{d:Option Tmp}{T ty:TypeId}{pos:String}{af:Array Edge}{gd:Option (Nat×Bool)}(hx:Ev fr g x (.int k a))(hr:k.wrap (0 - a)=r):OpY C ⟨d,.unOp .neg T x,ty,pos,af,gd⟩ fr g Any (.int k r):=λA w hf _ hg=>by
 subst hr;unfold execOp;simp only[hx.eval hf hg]
 rfl
theorem retC2{fn:Func}{K:Value->List bJ->Prop}{cs':List bJ}{e:Exit}{t T bb tt u s:Nat}{v v':Value}{xs:List Value}(he:e= .ret\/e= .normal)(hs:cs'.Sublist cs)(h0:fn.results= #[.cell t T,.tmp u,.tmp s])(h1:look fr t=some (.p bb))(h2:look fr u=some v)(h3:look fr s=some v')(hc:Has cs (row bb xs tt))
  (hT:∀w,(isAgg T).run C.P w= .ok true w) (hz:∀w,(sizeOf T).run C.P w= .ok xs.length w) (hk:K (.tuple #[.agg xs.toArray,v,v']) cs'):QOk C (bodyPost C.P fn (Ce C.w0 C.S K)) e fr cs:=
 nG he hs (λa w hf hi=>by
  have e1:=hf.at_ t _ h1;have e2:=hf.at_ u _ h2;have e3:=hf.at_ s _ h3;simp only[Array.getD_eq_getD_getElem?]at e1 e2 e3;simp[results,h0,e1,e2,e3,asAddr,gz hT hz hi hc]) hk
end
theorem Inv.Xv{S:List Nat}{cs cin:List bJ}{w0 w w':World}(h:Inv w0 S cs w)(hT:∀c,c∈cin->c∈cs)(hk:dc (bK cin) w w'):dc S w0 w':=
 ⟨hk.os.trans h.WB.os,hk.tape.trans h.WB.tape,hk.output.trans h.WB.output,aK h.WB.size hk.size,λb hb hS=>by
  refine(hk.block b (Nat.lt_of_lt_of_le hb h.WB.size) λhb2=>?_).trans (h.WB.block b hb hS);obtain⟨c,hc,hbc⟩:=dj.1 hb2;rcases h.own b (dj.2 ⟨c,hT c hc,hbc⟩)with h1|h1
  ·exact hS h1
  omega⟩
section
variable {C:Cx} {fr:Fr} {d:Option Tmp} {ty:TypeId} {pos:String} {af:Array Edge} {gd:Option (Nat×Bool)} {g:Bool} {x y:Operand} {T T':TypeId}
theorem Js{k:IntKind}{a b:Int}(hx:Ev fr g x (.int k a))(hy:Ev fr g y (.int k b)){r:Int}(hr:(if b<a then b else a)=r):OpY C ⟨d,.call {callee:= .builtin .min,args:= #[x,y],argTypes:= #[T,T']},ty,pos,af,gd⟩ fr g Any (.int k r):=λA w hf _ hg=>by
 subst hr;simp[execOp,resolve,invoke,builtin,hx.eval hf hg,hy.eval hf hg,Builtin.min_,Builtin.min2]
end
abbrev bP(cin:List bJ):bJ:=exC (α:=Unit) (bK cin) (λ_=>cin) Zrf (λ_=>True)
theorem ek{cin:List bJ}{w:World}(h:(bP cin).ok w):∀c,c∈cin->c.ok w:=by
 obtain⟨_,_,_,h3⟩:=h;exact h3
theorem Inv.Xc{w0 w w':World}{S:List Nat}{cs cin rest:List bJ}{c:bJ}(h:Inv w0 S cs w)(hp:fe cin cs rest)(h2:Has rest c)(hk:dc (bK cin) w w'):c.ok w':=by
 have hc:=h.ok _ (hp.perm.symm.subset (List.mem_append_right _ h2.mem));refine c.loc w w' (λb hb=>hk.block b (c.lt w hc b hb) λhin=>?_) hc;have hn:=((hp.perm.flatMap_right bJ.bs).nodup_iff).1 h.nodup;rw[List.flatMap_append]at hn;exact(List.nodup_append.1 hn).2.2 b hin b (dj.2 ⟨_,h2.mem,hb⟩) rfl
section
variable {C:Cx} {Q:lF} {fr:Fr} {cs r:List bJ} {ops:Array Oper} {l:List Oper} {x:Code}
theorem fx(cin:List bJ)(hs:fe cin cs r)(h:WL C ops Q l fr (bP cin::r)):WL C ops Q l fr cs:=GV () trivial hs h
end
section
variable {C:Cx} {fr:Fr} {cs:List bJ} {d:Option Tmp} {ty:TypeId} {pos:String} {af:Array Edge} {gd:Option (Nat×Bool)} {x:Operand}
theorem M5{f:FuncId}{l:List Operand}{vs fs caps:List Value}{ats:Array TypeId}{a:Act}{w:World}(hf:ro C.N fr a)(hx:ev fr x=some (.func (.func f) fs.toArray caps.toArray))(hl:evs fr l=some vs)(hc:∀args w,(callFunc f args).run C.P w= .ok (.enter f args) w):
  (execOp a.eval ⟨d,.call {callee:= .value x,args:=l.toArray,argTypes:=ats},ty,pos,af,gd⟩).run C.P w= .ok (.enter f (fs++vs++caps).toArray) w:=by
 have h1:=hf.ev hx;simp[execOp,resolve,invoke,Deferred.ofValue,h1,<-IN hf hl,hc]
end
theorem CL{w0:World}{S:List Nat}{cs:List bJ}{e sz n c b:Nat}{ad:Addr}{xs vs:List Value}(hc:Has cs (slv e sz (some ad) n c xs))(hv:∀j v,vs[j]? =some v->xs[b+j]? =some v):∀w,Inv w0 S cs w->cells (ee (ad.add b) 0 vs) w:=λw hi=>
 lm λj v hj=>by
  rw[Nat.add_zero];exact(dx (hi.get hc)).at_ ad rfl (b+j) v (hv j v hj)
theorem oH{w0:World}{S:List Nat}{cs:List bJ}{n c j:Nat}{ad:Addr}{xs:List Value}{v:Value}(h:∀w',dc S w0 w'->RdV w' 1 (some ad) n c xs)(hv:xs[j]? =some v):∀w,Inv w0 S cs w->cells [(ad.add (j*1),v)] w:=λw hi z hz=>by
 rw[aC]at hz;subst hz;rw[Nat.mul_one];exact(h w hi.WB).at_ ad rfl j v hv
theorem dV{w:World}{e sz n c:Nat}{A:Oa}{xs:List Value}(h:(slv e sz A n c xs).ok w)(hn:0<n):∃b,A=some ⟨b,0,none⟩:=by
 rcases h.2 with⟨_,h'⟩|⟨g',cap',cur,h',_⟩
 .omega
 simp only[Value.slice.injEq]at h';exact⟨g',h'.1⟩
theorem Hc{w0:World}{S:List Nat}{cs:List bJ}{e sz n c j bb:Nat}{xs:List Value}{v:Value}(hc:Has cs (slv e sz (sA bb) n c xs))(hv:xs[j]? =some v):∀w,Inv w0 S cs w->cells [(⟨bb,j,none⟩,v)] w:=λw hi z hz=>by
 rw[aC]at hz;subst hz;have:=(hi.rd hc).at_ _ rfl j v hv;rw[Addr.add_lit,Nat.zero_add]at this;exact this
section
variable {C:Cx} {fr:Fr} {cs:List bJ} {d:Option Nat} {T T':TypeId} {x y:Operand} {ty:TypeId} {pos:String} {af:Array Edge} {gd:Option (Nat×Bool)} {g:Bool} {v:Value}
theorem uv{bb o n c e sz:Nat}{xs:List Value}{mk:bJ->List bJ}(hT:∀w,(sizeOf T).run C.P w= .ok 1 w)(hx:ev fr x=some (.pointer (some ⟨bb,o,none⟩)))(hy:ev fr y=some v)(h1:v.oneCell'=true)(hu:At cs (slv e sz (sA bb) n c xs) mk)(ho:o<n*sz):
  OpT C ⟨d,.store T x y,ty,pos,af,gd⟩ fr cs true (λu cs'=>u=undef/\cs'=mk (slv e sz (sA bb) n c (xs.set o v))):=λa w hf hi next Q h=>by
 have hown:w.ownsRow 0 e sz (.slice (sA bb) n c) n xs:=hi.get hu.has;have hlen:=hown.1;have hc:w.cell? ⟨bb,o,none⟩=some (xs[o]'(by omega)):=by
  rw[hown.cellAt o Wq1];exact ae Wq1
 have hfz:w.frozen? ⟨bb,o,none⟩=false:=hown.frozenAt o;have hcs:v.cells= #[v]:=by cases v<;>first|rfl|cases h1
 have hr:(execOp a.eval ⟨d,.store T x y,ty,pos,af,gd⟩).run C.P w= .ok .skip (w.setCell ⟨bb,o,none⟩ v):=by
  exact Wq429
 unfold Oper.wp;rw[hr];obtain⟨h2,h3⟩:=hown.stored o v;have hk:=dc.Xd (show w.grownBy (w.setCell ⟨bb,o,none⟩ v) (Value.slice (sA bb) n c).ownBlock from h3);refine h _ _ _ ⟨rfl,rfl⟩ (hi.upd (hu _) hk (jO hk h2 λa ha=>?_)) (λe=>by cases e);obtain rfl:(⟨bb,0,none⟩:Addr)=a:=by simpa using ha
 left;simp[slv,bJ.bs,ab]
end
section
variable {C:Cx} {fr:Fr} {cs:List bJ} {d:Option Nat} {x y:Operand} {ty:TypeId} {pos:String} {af:Array Edge} {gd:Option (Nat×Bool)} {g:Bool} {v:Value}
variable{l:List Operand}{vs:List Value}
theorem mi{f:FuncId}(hl:evs fr l=some vs):OpY C ⟨d,.makeFunc (.func f) #[] l.toArray,ty,pos,af,gd⟩ fr g Any (.func (.func f) #[] vs.toArray):=λA w hf _ hg=>by
 have h:=IN hf hl;simp[execOp,Instr.makeFunc,<-h]
theorem iO{f:FuncId}{fs caps:List Value}{ats:Array TypeId}{K:Value->List bJ->Prop}(cin:List bJ){rest:List bJ}(hx:ev fr x=some (.func (.func f) fs.toArray caps.toArray))(hl:evs fr l=some vs)(hc:∀args w,(callFunc f args).run C.P w= .ok (.enter f args) w)
  (hp:fe cin cs rest) (h:∀w,Inv C.w0 C.S cs w->Inv w (bK cin) cin w->Ctr C.P f (fs++vs++caps) w cin K):
  OpT C ⟨d,.call {callee:= .value x,args:=l.toArray,argTypes:=ats},ty,pos,af,gd⟩ fr cs true (λv cs'=>∃cout,K v cout/\cs'=cout++rest):=λa w hf hinv next Q hn=>by
 have hin:Inv w (bK cin) cin w:=⟨dc.refl _ _,by
  have:=((hp.perm.flatMap_right bJ.bs).nodup_iff).1 hinv.nodup;rw[show List.flatMap bJ.bs (cin++rest)=bK cin++bK rest from fm _ _]at this;exact(List.nodup_append.1 this).1,λc hc=>hinv.ok c (hp.perm.mem_iff.2 (az.2 (.inl hc))),λb hb=> .inl hb⟩
 unfold Oper.wp;rw[M5 hf hx hl hc];refine Calls.mono (h w hinv hin) λe w' hq=>?_
 obtain⟨v,cout,rfl,hk,hi⟩:=hq;exact hn _ _ _ ⟨cout,hk,rfl⟩ (hinv.step hp.perm (.refl _) hi.WB hi) (λe=>by cases e)
end
section
open Go.MapKept
open Go.ChangeMaps (setBlock)
open Go.Maps (Keyed)
abbrev Ky:=Int×Int
def kyV(q:Ky):Value:= .agg #[.w q.1,.w q.2]
def ly(q:Ky):Prop:=(0<=q.1/\q.1<=4294967295)/\(0<=q.2/\q.2<=4294967295)
theorem kyV_inj{p q:Ky}(h:kyV p=kyV q):p=q:=by
 grind [kyV,Value.agg.injEq,Value.int.injEq]
def cT{α:Type}(key:α->Ky)(k:Ky)(l:List α):Option Nat:=l.findIdx? λx=>key x==k
def dS{β:Type}(L:List (Ky×β))(k:Ky)(v:β):List (Ky×β):=match cT (·.1) k L with
 |some j=>L.set j (k,v)
 |none=>L++[(k,v)]
def fY{β:Type}(L:List (Ky×β))(k:Ky)(z:β):β:=((L.find? λx=>x.1==k).map (·.2)).getD z
def qt{β:Type}(L:List (Ky×β))(k:Ky):List (Ky×β):=match cT (·.1) k L with
 |some j=>L.eraseIdx j
 |none=>L
theorem fp{α:Type}{key:α->Ky}{k:Ky}{l:List α}{j:Nat}(h:cT key k l=some j):∃hj:j<l.length,key l[j]=k:=by
 grind [cT,List.findIdx?_eq_some_iff_getElem]
theorem iw{α:Type}{key:α->Ky}{k:Ky}{l:List α}(h:cT key k l=none):∀x,x∈l->key x≠k:=by
 grind [cT]
theorem Dc{α:Type}{key:α->Ky}{k:Ky}{l:List α}(h:∀x,x∈l->key x≠k):cT key k l=none:=by
 grind [cT]
theorem kt{α β:Type}{key:α->Ky}{key':β->Ky}(f:α->β)(hf:∀x,key' (f x)=key x)(k:Ky)(l:List α):cT key' k (l.map f)=cT key k l:=by
 unfold cT;rw[List.findIdx?_map];congr 1
 grind
theorem rR{β:Type}{L:List (Ky×β)}{k:Ky}{j:Nat}(h:cT (·.1) k L=some j){v:β}(hv:L[j]? =some (k,v))(z:β):fY L k z=v:=by
 grind [cT,fY,List.findIdx?_eq_some_iff_getElem,List.getElem?_eq_getElem,List.find?_eq_some_iff_getElem]
theorem vO{β:Type}{L:List (Ky×β)}{k:Ky}(h:cT (·.1) k L=none)(z:β):fY L k z=z:=by
 grind [fY,iw]
theorem AG{α β:Type}(f:α->β)(L:List (Ky×α))(k:Ky)(z:α):fY (L.map λx=>(x.1,f x.2)) k (f z)=f (fY L k z):=by
 unfold fY;rw[List.find?_map];have:((λx:Ky×β=>x.1==k)∘λx:Ky×α=>(x.1,f x.2))=λx=>x.1==k:=rfl
 rw[this];cases L.find? (λx=>x.1==k)<;>rfl
theorem Hn{α β:Type}(f:α->β)(L:List (Ky×α))(k:Ky)(v:α):dS (L.map λx=>(x.1,f x.2)) k (f v)=(dS L k v).map λx=>(x.1,f x.2):=by
 unfold dS;rw[kt (key:=λx:Ky×α=>x.1) (λx:Ky×α=>(x.1,f x.2)) Zrf]
 grind [cT,List.map_set]
structure sK(P:Program)(k:TypeId):Prop where
 K:Keyed P k
 at_:∀q,ly q->∃l,keyOf P k (kyV q)=some l
def ou(b:Nat)(L:List (Ky×Value))(w:World):Prop:=∃es clock,w.heap[b]? =some (.map es clock)/\Stamped es clock/\(es.toList.map λe=>(e.key,e.val))=(L.map λx=>(kyV x.1,x.2))/\∀x,x∈L->ly x.1
abbrev mpc(b:Nat)(L:List (Ky×Value)):bJ:= .gen [b] (ou b L)
 (λw w' h hk=>by obtain⟨es,cl,h1,h2⟩:=hk;exact⟨es,cl,(h b (by simp)).trans h1,h2⟩)
 (λw hk b' hb=>by obtain⟨es,cl,h1,_⟩:=hk;grind)
theorem nV{w w':World}{bs:List Nat}{c':bJ}(hk:dc bs w w')(hn:c'.bs.Nodup)(hok:c'.ok w')(hsub:∀b,b∈c'.bs->b∈bs\/w.heap.size<=b):Inv w bs [c'] w':=
 ⟨hk,by grind [bK],λc hc=>by grind,λb hb=>hsub b (by grind [bK])⟩
theorem gh{w:World}{b:Nat}{o o':Obj}(hb:w.heap[b]? =some o):dc [b] w (setBlock w b o'):=
 ⟨rfl,rfl,rfl,by simp[setBlock],λi _ hi=>(heap_set hb).2 i bY⟩
theorem es_at{es:Array MapEntry}{L:List (Ky×Value)}(h:(es.toList.map λe=>(e.key,e.val))=(L.map λx=>(kyV x.1,x.2))){j:Nat}{e:MapEntry}(he:es.toList[j]? =some e):∃q,L[j]? =some (q,e.val)/\e.key=kyV q:=by
 have h1:=congrArg (λl=>l[j]?) h
 grind
theorem Pn{es:Array MapEntry}{L:List (Ky×Value)}(h:(es.toList.map λe=>(e.key,e.val))=(L.map λx=>(kyV x.1,x.2))){j:Nat}{x:Ky×Value}(he:L[j]? =some x):∃e,es.toList[j]? =some e/\e.key=kyV x.1/\e.val=x.2:=by
 have h1:=congrArg (λl=>l[j]?) h
 grind
theorem oR{es:Array MapEntry}{clock:Nat}(h:Stamped es clock){i j:Nat}{e f:MapEntry}(hi:es.toList[i]? =some e)(hj:es.toList[j]? =some f)(hk:e.key=f.key):i=j:=by
 obtain⟨h1,e1⟩:=ar.1 hi;obtain⟨h2,e2⟩:=ar.1 hj;exact(List.getElem_inj (xs:=es.toList.map (·.key)) (h₀:=by grind) (h₁:=by grind) h.2.2).1 bY
section
variable {P:Program} {k e:TypeId} {T:TypeId} {w:World} {b:Nat} {L:List (Ky×Value)} {q:Ky} {es:Array MapEntry} {clock:Nat}
theorem sq(hK:sK P k)(hs:Stamped es clock)(hL:(es.toList.map λe=>(e.key,e.val))=(L.map λx=>(kyV x.1,x.2)))(hok:∀x,x∈L->ly x.1)(hq:ly q)(w:World):
  (cT (·.1) q L=none/\(Instr.findKey k (kyV q) es.toList).run P w= .ok none w/\∀x∈es.toList,x.key≠kyV q)\/
  ∃j e,cT (·.1) q L=some j/\(Instr.findKey k (kyV q) es.toList).run P w= .ok (some (j,e.val)) w/\es.toList[j]? =some e/\e.key=kyV q/\L[j]? =some (q,e.val):=by
 obtain⟨lq,hlq⟩:=hK.at_ q hq;have hkeys:∀e∈es.toList,∃l,keyOf P k e.key=some l:=λe he=>by
  obtain⟨j,hj⟩:=List.getElem?_of_mem he;obtain⟨p,hp,hpe⟩:=es_at hL hj;rw[hpe];exact hK.at_ p (hok _ (ak hp))
 rcases hK.K.find w hlq es.toList hkeys with⟨h1,h2⟩|⟨j,e,h1,h2,h3⟩
 .grind [Dc,Pn,List.getElem?_of_mem,List.mem_of_getElem?]
 obtain⟨p,hp,hpe⟩:=es_at hL h2;obtain rfl:p=q:=kyV_inj (hpe.symm.trans h3);refine Or.inr ⟨j,e,?_,h1,h2,h3,hp⟩;cases hpl:cT (·.1) p L with
 |none=>grind [iw]
 |some i=>
  obtain⟨hi,hik⟩:=fp hpl;obtain⟨f,hf,hfk, -⟩:=Pn hL (ae hi)
  grind [oR]
theorem SH(hT:P.underlying T=some (.map k e))(hK:sK P k){z:Value}(hz:(zeroValue e).run P w= .ok z w)(hq:ly q)(h:ou b L w)(c:Bool):
  (Instr.lookup T (.map (some b)) (kyV q) c).run P w= .ok (if c then .tuple #[fY L q z,.bool (cT (·.1) q L).isSome]else fY L q z) w:=by
 obtain⟨es,clock,hb,hs,hL,hok⟩:=h;obtain⟨lq,hlq⟩:=hK.at_ q hq;rcases sq hK hs hL hok hq w with⟨h1,h2,h3⟩|⟨j,e0,h1,h2,h3,h4,h5⟩
 .rw[vO h1,h1];cases c<;>simp[Instr.lookup,run_underlying hT,MapKept.run_getObj_map hb,hK.K.check w _ hlq,h2,hz,Result.andThen]
 rw[rR h1 h5,h1];cases c<;>simp[Instr.lookup,run_underlying hT,MapKept.run_getObj_map hb,hK.K.check w _ hlq,h2,Result.andThen]
theorem put_run(hT:P.underlying T=some (.map k e))(hK:sK P k)(hq:ly q)(h:ou b L w)(v:Value):
  ∃w',(Instr.mapUpdate T (.map (some b)) (kyV q) v).run P w= .ok () w'/\dc [b] w w'/\ou b (dS L q v) w':=by
 obtain⟨es,clock,hb,hs,hL,hok⟩:=h;obtain⟨lq,hlq⟩:=hK.at_ q hq;rcases sq hK hs hL hok hq w with⟨h1,h2,h3⟩|⟨j,e0,h1,h2,h3,h4,h5⟩
 .refine⟨setBlock w b (.map (es.push ⟨kyV q,v,clock⟩) (clock+1)),?_,gh hb,_,_,(heap_set hb).1,stamped_push hs h3,?_,?_⟩
  .simp[Instr.mapUpdate,run_underlying hT,MapKept.run_getObj_map hb,hK.K.check w false hlq,h2,MapKept.run_setObj_map _ hb,Result.andThen,setBlock]
  .grind [dS]
  grind [dS]
 have hj:es[j]? =some e0:=by simpa using h3
 have hkeyf:∀e',es[j]? =some e'->({e' with key:=kyV q,val:=v}:MapEntry).key=e'.key:=λe' he'=>by grind
 refine⟨setBlock w b (.map (es.modify j λe'=>{e' with key:=kyV q,val:=v}) clock),?_,gh hb,_,_,(heap_set hb).1,stamped_modify hs _ _ (λ_ _=>rfl) (λe' _ he'=>hkeyf e' he'),?_,?_⟩
 .simp[Instr.mapUpdate,run_underlying hT,MapKept.run_getObj_map hb,hK.K.check w false hlq,h2,hj,h4,hK.K.stays w hlq,MapKept.run_setObj_map _ hb,Result.andThen,setBlock]
 .simp_all [dS,ChangeMaps.modify_eq_set]
 grind [dS]
theorem tx(es:Array MapEntry){j:Nat}(hj:j<es.toList.length):(es.eraseIdxIfInBounds j).toList=es.toList.eraseIdx j:=by
 simp_all
theorem del_run(hT:P.underlying T=some (.map k e))(hK:sK P k)(hq:ly q)(h:ou b L w)(ty:TypeId):
  ∃w',(Builtin.delete_ #[T,k] ty #[.map (some b),kyV q]).run P w= .ok (.tuple #[]) w'/\dc [b] w w'/\ou b (qt L q) w':=by
 obtain⟨es,clock,hb,hs,hL,hok⟩:=h;obtain⟨lq,hlq⟩:=hK.at_ q hq;rcases sq hK hs hL hok hq w with⟨h1,h2,h3⟩|⟨j,e0,h1,h2,h3,h4,h5⟩
 .refine⟨setBlock w b (.map es clock),?_,gh hb,_,_,(heap_set hb).1,hs,?_,?_⟩
  .exact Vb
  .grind [qt]
  grind [qt]
 have hjl:=(ar.1 h3).1;refine⟨setBlock w b (.map (es.eraseIdxIfInBounds j) clock),?_,gh hb,_,_,(heap_set hb).1,stamped_erase hs j,?_,?_⟩
 .exact Vb
 .grind [qt,tx,ChangeMaps.map_eraseIdx]
 grind [qt,List.eraseIdx_sublist]
end
def Cg(b r:Nat)(L:List (Bool×Ky×Value))(cur:Option (Ky×Value))(w:World):Prop:=
 ∃es clock since seen c0,w.heap[b]? =some (.map es clock)/\Stamped es clock/\w.heap[r]? =some (.mapIter (some b) since seen c0)/\(∀x∈es.toList,x.born<since)/\since<=c0/\since<=clock/\
  (es.toList.map λe=>(seen.contains e.born,e.key,e.val))=(L.map λx=>(x.1,kyV x.2.1,x.2.2))/\(∀x,x∈L->ly x.2.1)/\b≠r/\
  ∀q v,cur=some (q,v)->c0=clock/\∃e∈es.toList,∃sn:Array Nat,seen=sn.push e.born/\e.key=kyV q/\e.val=v
abbrev itC(b r:Nat)(L:List (Bool×Ky×Value))(cur:Option (Ky×Value)):bJ:= .gen [b,r] (Cg b r L cur)
 (λw w' h hk=>by obtain⟨es,cl,si,se,c0,h1,h2,h3,h4⟩:=hk;exact⟨es,cl,si,se,c0,(h b (by simp)).trans h1,h2,(h r (by simp)).trans h3,h4⟩)
 (λw hk b' hb=>by
  obtain⟨es,cl,si,se,c0,h1,h2,h3,h4⟩:=hk
  grind)
abbrev LD:=Option (Nat×Ky×Value)
def Kq(o:LD):List Value:=match o with|none=>[.bool false]|some (_,q,v)=>[.bool true,kyV q,v]
def FF(L:List (Bool×Ky×Value))(o:LD):List (Bool×Ky×Value):=match o with|none=>L|some (j,q,v)=>L.set j (true,q,v)
def NI(o:LD):Option (Ky×Value):=o.map (·.2)
def VC(L:List (Bool×Ky×Value))(o:LD):Prop:=match o with|none=>∀x,x∈L->x.1=true|some (j,q,v)=>L[j]? =some (false,q,v)
variable{b r:Nat}{L:List (Bool×Ky×Value)}{cur:Option (Ky×Value)}{w:World}
theorem VH(h:Cg b r L cur w):ou b (L.map (·.2)) w:=by
 obtain⟨es,clock,since,seen,c0,hb,hs,hr,hold,hsc,hsk,hL,hok,hne,hcur⟩:=h;refine⟨es,clock,hb,hs,?_,λx hx=>?_⟩
 .exact Wq397
 grind
theorem Sn{P:Program}(h:Cg b r L cur w)(ty:TypeId):
  ∃o w',VC L o/\(Instr.next (.p r) false ty).run P w= .ok (.tuple (Kq o).toArray) w'/\dc [b,r] w w'/\Cg b r (FF L o) (NI o) w':=by
 obtain⟨es,clock,since,seen,c0,hb,hs,hr,hold,hsc,hsk,hL,hok,hne,hcur⟩:=h;rcases run_next_at (P:=P) w ty r b since c0 seen es clock hr hb hold hsc with⟨h0,j0⟩|⟨e,he,w1,hal,j0⟩
 .refine⟨none,w,λx hx=>?_,j0,dc.refl _ _,es,clock,since,seen,c0,hb,hs,hr,hold,hsc,hsk,hL,hok,hne,λq v e=>by cases e⟩;have ha:=all_seen es seen h0;obtain⟨j,hj⟩:=List.getElem?_of_mem hx;have h1:=congrArg (λl=>l[j]?) hL
  grind
 obtain⟨hem,hes⟩:=mem_left he;obtain⟨j,hj⟩:=List.getElem?_of_mem hem;have h1:=congrArg (λl=>l[j]?) hL;simp only[aX,hj,Option.map_some]at h1;cases hl:L[j]? with
 |none=>grind
 |some x=>
  obtain⟨f,q,v⟩:=x;rw[hl]at h1;simp only[Option.map_some,bo,bA]at h1;obtain⟨h1,h2,h3⟩:=h1;rw[hes]at h1;subst h1 h3;have hr1:w1.heap[r]? =some (.mapIter (some b) since seen c0):=by rcases hal with rfl|rfl<;>exact hr
  have hb1:w1.heap[b]? =some (.map es clock):=by rcases hal with rfl|rfl<;>exact hb
  have hset:=heap_set (o':= .mapIter (some b) since (seen.push e.born) clock) hr1;have hkp:dc [b,r] w (setBlock w1 r (.mapIter (some b) since (seen.push e.born) clock)):=by
   have hk1:=gh (o':= .mapIter (some b) since (seen.push e.born) clock) hr1;rcases hal with rfl|rfl<;>exact⟨rfl,rfl,rfl,hk1.size,λi hi hn=>hk1.block i hi (by simp at hn|-;omega)⟩
  refine⟨some (j,q,e.val),_,hl,by rw[j0,h2];rfl,hkp,es,clock,since,seen.push e.born,clock,(hset.2 b hne).trans hb1,hs,hset.1,hold,hsk,hsk,?_,λx hx=>?_,hne,λq' v' e'=>?_⟩
  .show _=(L.set j (true,q,e.val)).map _;rw[List.map_set,<-hL];apply List.ext_getElem?;intro i;rw[aX,List.getElem?_set];by_cases hij:j=i
   .grind
   rw[if_neg hij,aX];cases hi:es.toList[i]? with
   |none=>rfl
   |some x=>
    have hxb:(x.born==e.born)=false:=by
     rw[aV];intro hbe;have:=born_inj hs.2.1 (ak hi) hem hbe;subst this;exact hij (oR hs hj hi rfl)
    grind
  .rcases List.mem_or_eq_of_mem_set hx with hx|rfl
   .grind
   grind
  grind [NI]
theorem Pp{P:Program}{q:Ky}{v:Value}(h:Cg b r L (some (q,v)) w):(Instr.entry (.p r)).run P w= .ok (.tuple #[kyV q,v]) w:=by
 obtain⟨es,clock,since,seen,c0,hb,hs,hr,hold,hsc,hsk,hL,hok,hne,hcur⟩:=h;obtain⟨rfl,e,he,sn,rfl,h1,rfl⟩:=hcur q v rfl;rw[<-h1];exact run_entry_at w r b since sn es c0 e hr hb he hs.2.1
def yd(L:List (Bool×Ky×Value))(q:Ky):List (Bool×Ky×Value):=match cT (·.2.1) q L with
 |some j=>L.eraseIdx j
 |none=>L
section
variable {P:Program} {k e:TypeId} {T:TypeId} {w:World} {b r:Nat} {L:List (Bool×Ky×Value)} {cur:Option (Ky×Value)} {q:Ky}
theorem Oz(hT:P.underlying T=some (.map k e))(hK:sK P k)(hq:ly q)(h:Cg b r L cur w)(ty:TypeId):
  ∃w',(Builtin.delete_ #[T,k] ty #[.map (some b),kyV q]).run P w= .ok (.tuple #[]) w'/\dc [b,r] w w'/\Cg b r (yd L q) none w':=by
 have hm:=VH h;obtain⟨es,clock,since,seen,c0,hb,hs,hr,hold,hsc,hsk,hL,hok,hne,hcur⟩:=h;obtain⟨lq,hlq⟩:=hK.at_ q hq;have hL2:(es.toList.map λe=>(e.key,e.val))=((L.map (·.2)).map λx=>(kyV x.1,x.2)):=by
  exact Wq397
 have hok2:∀x,x∈L.map (·.2)->ly x.1:=λx hx=>by grind
 have hpl:cT (·.1) q (L.map (·.2))=cT (·.2.1) q L:=kt (key:=λx:Bool×Ky×Value=>x.2.1) (key':=λx:Ky×Value=>x.1) (·.2) Zrf q L;rcases sq hK hs hL2 hok2 hq w with⟨h1,h2,h3⟩|⟨j,e0,h1,h2,h3,h4,h5⟩
 .rw[hpl]at h1;have hk1:=gh (o':= .map es clock) hb;refine⟨setBlock w b (.map es clock),?_,⟨rfl,rfl,rfl,hk1.size,λi hi hn=>hk1.block i hi bY⟩,es,clock,since,seen,c0,(heap_set hb).1,hs,((heap_set hb).2 r hne.symm).trans hr,hold,hsc,hsk,?_,?_,hne,λ_ _ e=>by cases e⟩
  .exact Vb
  .grind [yd]
  grind [yd]
 rw[hpl]at h1;have hjl:=(ar.1 h3).1;have hk1:=gh (o':= .map (es.eraseIdxIfInBounds j) clock) hb;refine⟨setBlock w b (.map (es.eraseIdxIfInBounds j) clock),?_,⟨rfl,rfl,rfl,hk1.size,λi hi hn=>hk1.block i hi bY⟩,es.eraseIdxIfInBounds j,clock,since,seen,c0,(heap_set hb).1,stamped_erase hs j,((heap_set hb).2 r hne.symm).trans hr,?_,hsc,hsk,?_,?_,hne,λ_ _ e=>by cases e⟩
 .exact Vb
 .grind
 .grind [yd,tx,ChangeMaps.map_eraseIdx]
 grind [yd,List.eraseIdx_sublist]
theorem Oy(hT:P.underlying T=some (.map k e))(hK:sK P k)(h:Cg b r L cur w){j:Nat}{f:Bool}{v0:Value}(hj:L[j]? =some (f,q,v0))(v:Value):
  ∃w',(Instr.mapUpdate T (.map (some b)) (kyV q) v).run P w= .ok () w'/\dc [b,r] w w'/\Cg b r (L.set j (f,q,v)) none w':=by
 obtain⟨es,clock,since,seen,c0,hb,hs,hr,hold,hsc,hsk,hL,hok,hne,hcur⟩:=h;have hq:ly q:=hok _ (ak hj);obtain⟨lq,hlq⟩:=hK.at_ q hq;have hL2:(es.toList.map λe=>(e.key,e.val))=((L.map (·.2)).map λx=>(kyV x.1,x.2)):=by
  exact Wq397
 have hok2:∀x,x∈L.map (·.2)->ly x.1:=λx hx=>by grind
 rcases sq hK hs hL2 hok2 hq w with⟨h1,h2,h3⟩|⟨i,e0,h1,h2,h3,h4,h5⟩
 .grind [iw]
 have hij:i=j:=by
  have hjj:(L.map (·.2))[j]? =some (q,v0):=by rw[aX,hj];rfl
  obtain⟨f1,hf1,hf2, -⟩:=Pn hL2 hjj;exact oR hs h3 hf1 (by rw[h4,hf2])
 subst hij;have hji:es[i]? =some e0:=by simpa using h3
 have hkeyf:∀e',es[i]? =some e'->({e' with key:=kyV q,val:=v}:MapEntry).key=e'.key:=λe' he'=>by grind
 have hk1:=gh (o':= .map (es.modify i λe'=>{e' with key:=kyV q,val:=v}) clock) hb;have hset:(es.modify i λe'=>{e' with key:=kyV q,val:=v}).toList=es.toList.set i {e0 with key:=kyV q,val:=v}:=by rw[Array.toList_modify,ChangeMaps.modify_eq_set _ _ _ _ h3]
 refine⟨setBlock w b (.map (es.modify i λe'=>{e' with key:=kyV q,val:=v}) clock),?_,⟨rfl,rfl,rfl,hk1.size,λi hi hn=>hk1.block i hi bY⟩,_,clock,since,seen,c0,(heap_set hb).1,stamped_modify hs _ _ (λ_ _=>rfl) (λe' _ he'=>hkeyf e' he'),((heap_set hb).2 r hne.symm).trans hr,?_,hsc,hsk,?_,?_,hne,λ_ _ e=>by cases e⟩
 .simp[Instr.mapUpdate,run_underlying hT,MapKept.run_getObj_map hb,hK.K.check w false hlq,h2,hji,h4,hK.K.stays w hlq,MapKept.run_setObj_map _ hb,Result.andThen,setBlock]
 .grind
 .rw[hset,List.map_set,List.map_set,hL];have h6:=congrArg (λl=>l[i]?) hL
  grind
 grind
end
section
variable {C:Cx} {fr:Fr} {cs:List bJ} {d:Option Nat} {T k e:TypeId} {x y z:Operand} {ty:TypeId} {pos:String} {af:Array Edge} {gd:Option (Nat×Bool)} {g:Bool} {v:Value} {b r:Nat} {L:List (Ky×Value)} {IL:List (Bool×Ky×Value)} {cur:Option (Ky×Value)} {q:Ky} {mk:bJ->List bJ}
theorem LQ{zv:Value}(hx:Ev fr g x (.map (some b)))(hy:Ev fr g y (kyV q))(hq:ly q)(hT:C.P.underlying T=some (.map k e))(hK:sK C.P k)(hz:∀w,(zeroValue e).run C.P w= .ok zv w):
  OpY C ⟨d,.lookup T x y false,ty,pos,af,gd⟩ fr g (ou b L) (fY L q zv):=λa w hf hv hg=>by
 have:=SH hT hK (hz w) hq hv false;simp[execOp,hx.eval hf hg,hy.eval hf hg,this]
theorem y_mlen(hx:Ev fr g x (.map (some b)))(hT:C.P.underlying T=some (.map k e)):OpY C ⟨d,.call {callee:= .builtin .len,args:= #[x],argTypes:= #[T]},ty,pos,af,gd⟩ fr g (ou b L) (.i (L.length:Int)):=λa w hf hv hg=>by
 obtain⟨es,clock,hb,hs,hL,hok⟩:=hv;have e1:es.size=L.length:=by
  have:=congrArg List.length hL;simpa using this
 simp[execOp,resolve,invoke,builtin,hx.eval hf hg,Builtin.len_,run_underlying hT,MapKept.run_getObj_map hb,goInt,Result.andThen,e1]
theorem E9(hT:C.P.underlying T=some (.map k e)):OpT C ⟨d,.makeMap T none,ty,pos,af,gd⟩ fr cs false (λv cs'=>∃b,v= .map (some b)/\cs'=cs++[mpc b []]):=λa w hf hi next Q h=>by
 have hr:(execOp a.eval ⟨d,.makeMap T none,ty,pos,af,gd⟩).run C.P w= .ok (.value (.map (some w.heap.size))) (w.alloc (.map #[] 0)):=by
  have:=run_makeMap (P:=C.P) T w;simp[execOp,this]
 unfold Oper.wp;rw[hr];refine h _ _ _ ⟨_,rfl,rfl⟩ (hi.more (nV (dc.Xe ((Below.refl _ _).alloc (aL _) _) _) (by simp[bJ.bs]) ⟨#[],0,Bu w _,stamped_empty 0,by simp,by simp⟩ λb hb=>?_)) (λ_=>zM.alloc w _)
 grind [bJ.bs]
theorem t_mput(hx:ev fr x=some (.map (some b)))(hy:ev fr y=some (kyV q))(hz:ev fr z=some v)(hq:ly q)(hT:C.P.underlying T=some (.map k e))(hK:sK C.P k)(hu:At cs (mpc b L) mk):
  OpT C ⟨d,.mapUpdate T x y z,ty,pos,af,gd⟩ fr cs true (λu cs'=>u=undef/\cs'=mk (mpc b (dS L q v))):=λa w hf hi next Q h=>by
 obtain⟨w',h1,h2,h3⟩:=put_run hT hK hq (hi.get hu.has) v;unfold Oper.wp;have hr:(execOp a.eval ⟨d,.mapUpdate T x y z,ty,pos,af,gd⟩).run C.P w= .ok .skip w':=by simp[execOp,hf.ev hx,hf.ev hy,hf.ev hz,h1]
 exact Wq447
theorem t_mdel(hx:ev fr x=some (.map (some b)))(hy:ev fr y=some (kyV q))(hq:ly q)(hT:C.P.underlying T=some (.map k e))(hK:sK C.P k)(hu:At cs (mpc b L) mk):
  OpT C ⟨d,.call {callee:= .builtin .delete,args:= #[x,y],argTypes:= #[T,k]},ty,pos,af,gd⟩ fr cs true (λu cs'=>u= .tuple #[]/\cs'=mk (mpc b (qt L q))):=λa w hf hi next Q h=>by
 obtain⟨w',h1,h2,h3⟩:=del_run hT hK hq (hi.get hu.has) ty;unfold Oper.wp;have hr:(execOp a.eval ⟨d,.call {callee:= .builtin .delete,args:= #[x,y],argTypes:= #[T,k]},ty,pos,af,gd⟩).run C.P w= .ok (.value (.tuple #[])) w':=by simp[execOp,resolve,invoke,builtin,hf.ev hx,hf.ev hy,h1]
 exact Wq447
theorem Rl(hx:ev fr x=some (.map (some b)))(hT:C.P.underlying T=some (.map k e))(hu:At cs (mpc b L) mk):
  OpT C ⟨d,.call {callee:= .builtin .clear,args:= #[x],argTypes:= #[T]},ty,pos,af,gd⟩ fr cs true (λu cs'=>u= .tuple #[]/\cs'=mk (mpc b [])):=λa w hf hi next Q h=>by
 obtain⟨es,clock,hb,hs,hL,hok⟩:=(show ou b L w from hi.get hu.has);have hr:(execOp a.eval ⟨d,.call {callee:= .builtin .clear,args:= #[x],argTypes:= #[T]},ty,pos,af,gd⟩).run C.P w= .ok (.value (.tuple #[])) (setBlock w b (.map #[] clock)):=by
  simp[execOp,resolve,invoke,builtin,hf.ev hx,Builtin.clear_,run_underlying hT,MapKept.run_getObj_map hb,MapKept.run_setObj_map _ hb,Result.andThen,setBlock]
 unfold Oper.wp;rw[hr];exact h _ _ _ ⟨rfl,rfl⟩ (hi.upd (hu _) (gh hb) (nV (gh hb) (by simp[bJ.bs]) ⟨#[],clock,(heap_set hb).1,stamped_empty clock,by simp,by simp⟩ (λb hb=>Or.inl hb))) (λe=>by cases e)
theorem G4(hx:ev fr x=some (.map (some b)))(hT:C.P.underlying T=some (.map k e))(hu:At cs (mpc b L) mk):
  OpT C ⟨d,.range T x,ty,pos,af,gd⟩ fr cs true (λu cs'=>∃r,u= .p r/\cs'=mk (itC b r (L.map λx=>(false,x)) none)):=λa w hf hi next Q h=>by
 obtain⟨es,clock,hb,hs,hL,hok⟩:=(show ou b L w from hi.get hu.has);have hlt:b<w.heap.size:=(Array.getElem?_eq_some_iff.1 hb).1;have j0:=run_range_map (P:=C.P) w T k e b es clock hT hb;have hr:(execOp a.eval ⟨d,.range T x,ty,pos,af,gd⟩).run C.P w= .ok (.value (.p w.heap.size)) (w.alloc (.mapIter (some b) clock #[] clock)):=by
  simp[execOp,hf.ev hx,j0]
 have hk:dc [b] w (w.alloc (.mapIter (some b) clock #[] clock)):=dc.Xe ((Below.refl _ _).alloc (aL _) _) _;unfold Oper.wp;rw[hr];refine h _ _ _ ⟨_,rfl,rfl⟩ (hi.upd (hu _) hk (nV hk ?_ ⟨es,clock,clock,#[],clock,((MapKept.heap_alloc w _).2 b hlt).trans hb,hs,Bu w _,hs.1,aL _,aL _,?_,?_,by omega,λ_ _ e=>by cases e⟩ λb' hb'=>?_)) (λe=>by cases e)
 .simp[bJ.bs];omega
 .rw[List.map_map];have e1:=congrArg (List.map λp:Value×Value=>(false,p.1,p.2)) hL;simp only[List.map_map]at e1;have e2:(λe:MapEntry=>((#[]:Array Nat).contains e.born,e.key,e.val))=λe=>(false,e.key,e.val):=by funext e;simp
  rw[e2];exact e1
 .grind
 grind [bJ.bs]
theorem MN(hx:ev fr x=some (.p r))(hu:At cs (itC b r IL cur) mk):
  OpT C ⟨d,.next x false,ty,pos,af,gd⟩ fr cs true (λu cs'=>∃o:LD,VC IL o/\u= .tuple (Kq o).toArray/\cs'=mk (itC b r (FF IL o) (NI o))):=λa w hf hi next Q h=>by
 obtain⟨o,w',h1,h2,h3,h4⟩:=Sn (P:=C.P) (show Cg b r IL cur w from hi.get hu.has) ty
 have hne:b≠r:=by obtain⟨_,_,_,_,_,_,_,_,_,_,_,_,_,hne,_⟩:=h4;exact hne
 have hr:(execOp a.eval ⟨d,.next x false,ty,pos,af,gd⟩).run C.P w= .ok (.value (.tuple (Kq o).toArray)) w':=by simp[execOp,hf.ev hx,h2]
 unfold Oper.wp;rw[hr];exact h _ _ _ ⟨o,h1,rfl,rfl⟩ (hi.upd (hu _) h3 (nV h3 (by grind [bJ.bs]) h4 (λb hb=>Or.inl hb))) (λe=>by cases e)
theorem LO{o:LD}(hx:Ev fr g x (.tuple (Kq o).toArray)):OpY C ⟨d,.extract x 0,ty,pos,af,gd⟩ fr g Any (.bool o.isSome):=λa w hf _ hg=>by
 rcases o with _|⟨j,q,v⟩
 .simp[execOp,hx.eval hf hg,Instr.extract,Kq]
 simp[execOp,hx.eval hf hg,Instr.extract,Kq]
theorem LX(hx:Ev fr g x (.p r)):OpY C ⟨d,.entry x,ty,pos,af,gd⟩ fr g (Cg b r IL (some (q,v))) (.tuple #[kyV q,v]):=λa w hf hv hg=>by
 simp[execOp,hx.eval hf hg,Pp hv]
theorem t_itdel(hx:ev fr x=some (.map (some b)))(hy:ev fr y=some (kyV q))(hq:ly q)(hT:C.P.underlying T=some (.map k e))(hK:sK C.P k)(hu:At cs (itC b r IL cur) mk):
  OpT C ⟨d,.call {callee:= .builtin .delete,args:= #[x,y],argTypes:= #[T,k]},ty,pos,af,gd⟩ fr cs true (λu cs'=>u= .tuple #[]/\cs'=mk (itC b r (yd IL q) none)):=λa w hf hi next Q h=>by
 obtain⟨w',h1,h2,h3⟩:=Oz hT hK hq (show Cg b r IL cur w from hi.get hu.has) ty;have hne:b≠r:=by obtain⟨_,_,_,_,_,_,_,_,_,_,_,_,_,hne,_⟩:=h3;exact hne
 unfold Oper.wp;have hr:(execOp a.eval ⟨d,.call {callee:= .builtin .delete,args:= #[x,y],argTypes:= #[T,k]},ty,pos,af,gd⟩).run C.P w= .ok (.value (.tuple #[])) w':=by simp[execOp,resolve,invoke,builtin,hf.ev hx,hf.ev hy,h1]
 exact Wq434
theorem t_itput{j:Nat}{f:Bool}{v0:Value}(hj:IL[j]? =some (f,q,v0))(hx:ev fr x=some (.map (some b)))(hy:ev fr y=some (kyV q))(hz:ev fr z=some v)(hT:C.P.underlying T=some (.map k e))(hK:sK C.P k)(hu:At cs (itC b r IL cur) mk):
  OpT C ⟨d,.mapUpdate T x y z,ty,pos,af,gd⟩ fr cs true (λu cs'=>u=undef/\cs'=mk (itC b r (IL.set j (f,q,v)) none)):=λa w hf hi next Q h=>by
 obtain⟨w',h1,h2,h3⟩:=Oy hT hK (show Cg b r IL cur w from hi.get hu.has) hj v;have hne:b≠r:=by obtain⟨_,_,_,_,_,_,_,_,_,_,_,_,_,hne,_⟩:=h3;exact hne
 unfold Oper.wp;have hr:(execOp a.eval ⟨d,.mapUpdate T x y z,ty,pos,af,gd⟩).run C.P w= .ok .skip w':=by simp[execOp,hf.ev hx,hf.ev hy,hf.ev hz,h1]
 exact Wq434
theorem Inv.itEnd{w0:World}{S:List Nat}{rest:List bJ}(h:Inv w0 S (itC b r IL cur::rest) w):Inv w0 S (mpc b (IL.map (·.2))::rest) w:=by
 have hm:ou b (IL.map (·.2)) w:=VH (show Cg b r IL cur w from h.ok (itC b r IL cur) (List.mem_cons_self ..));have hn:=h.nodup;rw[eI]at hn;refine⟨h.WB,?_,λc hc=>?_,λx hx=>h.own x ?_⟩
 .rw[eI];exact(List.Sublist.append (show([b]:List Nat).Sublist [b,r]from(List.Sublist.slnil.cons r).cons_cons b) (bh _)).nodup hn
 .rcases aJ.1 hc with rfl|hc
  .exact hm
  exact h.ok c (List.mem_cons_of_mem _ hc)
 grind [eI,bJ.bs]
end
end
end Go.Ink
