/- Lemmas. -/
import Derived.Test.YtbkgmdgackknfaaGreatDoorPac
import Derived.ChangeKeysEq
import Derived.Maps.Range
import Derived.DeepKeys4
set_option linter.unusedSimpArgs false
set_option linter.unusedVariables false
set_option maxRecDepth 100000
set_option maxHeartbeats 4000000
namespace Go.Ink
open Go.RowKit
section
variable {C:Cx} {Q:lS} {fr:Fr} {cs cs':List bC} {c c':bC} {ops:Array Oper} {rest:List Oper}
end
section
variable {C:Cx} {fr:Fr} {cs:List bC} {d:Option Tmp} {ty:TypeId} {pos:String} {af:Array Edge} {gd:Option (Nat×Bool)} {v:Value} {g:Bool} {x y:Operand} {T T':TypeId}
theorem ce{ad r:Addr}(n:Nat){f:Nat}(ho:ic C.P T f=some n)(hx:Ev fr g x (.pointer (some ad)))(hr:ad.add n=r):OpY C ⟨d,.fieldAddr T x f,ty,pos,af,gd⟩ fr g Any (.pointer (some r)):=λA w hf _ hg=>by
 subst hr;unfold ic at ho;split at ho
 .rename_i fs hfs
  split at ho
  .rename_i fd hfd
   split at ho
   .rename_i i hi
    by_cases hz:i.size=0
    .simp[hz]at ho
    have hz':Nat.beq i.size 0=false:=by cases h':Nat.beq i.size 0 with|false=>rfl|true=>exact absurd (Nat.eq_of_beq_eq_true h') hz
    rw[hz']at ho;simp only[ah,aU]at ho;subst ho;simp[execOp,hx.eval hf hg,Instr.fieldAt,run_underlying hfs,hfd,Instr.sureAddr,fieldPlace,sizeOf,typeInfo,hi,hz]
   cases ho
  cases ho
 cases ho
theorem og{w0:World}{sz n c i:Nat}{ad:Addr}{xs:List Value}(h:RdV w0 sz (some ad) n c xs)(hv:xs[i]? =some v):∀w,Inv w0 [] cs w->cells [(ad.add i,v)] w:=λw hi z hz=>by
 rw[aB]at hz;subst hz;exact(h.RU hi).at_ ad rfl i v hv
theorem kW{w:World}{ad:Addr}{b:Nat}:∀{vs:List Value} {i:Nat},(∀j v,vs[j]? =some v->w.cell? (ad.add (b+i+j))=some v)->cells (ez (ad.add b) i vs) w
 |[],_,_=>λx hx=>by cases hx
 |u::vs,i,h=>λx hx=>by
  rcases aG.1 hx with rfl|hx
  .show w.cell? ((ad.add b).add i)=some u;rw[eX];exact h 0 u rfl
  exact kW (vs:=vs) (i:=i+1) (λj v hj=>by
   have:=h (j+1) v (by simpa using hj);rwa[show b+i+(j+1)=b+(i+1)+j by omega]at this) x hx
theorem dY{w0:World}{sz n c b:Nat}{ad:Addr}{xs vs:List Value}(h:RdV w0 sz (some ad) n c xs)(hv:∀j v,vs[j]? =some v->xs[b+j]? =some v):∀w,Inv w0 [] cs w->cells (ez (ad.add b) 0 vs) w:=λw hi=>
 kW λj v hj=>by
  rw[Nat.add_zero];exact(h.RU hi).at_ ad rfl (b+j) v (hv j v hj)
end
theorem da{α:Type}{f:α->List Value}{sz:Nat}(hf:∀a,(f a).length=sz):∀{xs:List α} {k i:Nat} {a:α} {v:Value},xs[k]? =some a->(f a)[i]? =some v->(xs.flatMap f)[k*sz+i]? =some v
 |[],k,i,a,v,h,_=>by simp at h
 |x::xs,0,i,a,v,h,h2=>by
  simp only[List.getElem?_cons_zero,aU]at h;subst h;have:=(aj.1 h2).1;rw[List.flatMap_cons,Nat.zero_mul,Nat.zero_add,aZ this];exact h2
 |x::xs,k+1,i,a,v,h,h2=>by
  rw[List.flatMap_cons,List.getElem?_append_right (by rw[hf,Nat.succ_mul];omega),hf,show(k+1)*sz+i - sz=k*sz+i by rw[Nat.succ_mul];omega];exact da hf (by simpa using h) h2
theorem Ae{α:Type}{f:α->List Value}{sz:Nat}(hf:∀a,(f a).length=sz):∀xs:List α,(xs.flatMap f).length=xs.length*sz
 |[]=>by simp
 |x::xs=>by rw[List.flatMap_cons,aq,hf,Ae hf xs,aQ,Nat.succ_mul];omega
section
open Go.ChangeShapes Go.WideShapes
variable {P:Program} {w:World} {t:TypeId} {cs:List Value} {v:Value}
theorem Arg.rows{α:Type}{e:TypeId}{sz:Nat}{f:α->List Value}{Q:α->Prop}(ht:P.underlying t=some (.slice e))(hc:P.cellsOf e=sz)(hf:∀a,(f a).length=sz)(a0:α)
  (ho:∀es,Arg P w e es->∃a,es=f a/\Q a) (h:Arg P w t cs):
  ∃(A:Option Addr) (c:Nat) (xs:List α),cs=[.slice A xs.length c]/\RdV w sz A xs.length c (xs.flatMap f)/\(∀x,x∈xs->Q x)/\c*P.bytesOf e<=140737488351232:=by
 rcases h.slice ht with rfl|⟨a,len,cap,rfl,hl,hm,hb,hi⟩
 .exact⟨none,0,[],rfl,⟨by simp,aL _,by decide,λ_=>⟨rfl,rfl⟩,λ_ h=>by cases h⟩,(λx hx=>by cases hx),by simp⟩
 have each:∀i:Nat,∃x:α,i<cap->(∀j v,(f x)[j]? =some v->w.cell? (a.add (i*sz+j))=some v)/\Q x:=λi=>by
  by_cases hlt:i<cap
  .obtain⟨es,base,h1,h2⟩:=hi i hlt;obtain⟨x,rfl,hq⟩:=ho es h2;rw[hc]at h1;refine⟨x,λ_=>⟨λj v hj=>?_,hq⟩⟩;have hjl:=(aj.1 hj).1;rw[hf]at hjl;have:=(World.cells?_some h1).2.2 j hjl;rw[Go.Ink.eX]at this;rw[this];exact hj
  exact⟨a0,λh=>absurd h hlt⟩
 obtain⟨g,hg⟩:=Classical.axiomOfChoice each;refine⟨some a,cap,(List.range len).map g,by simp,⟨by rw[Ae hf],by simpa using hl,hm,(λh=>by cases h),?_⟩,?_,hb⟩
 .intro ad e j u hu;obtain rfl:a=ad:=by simpa using e
  have hj:=(aj.1 hu).1;rw[Ae hf,aV,List.length_range]at hj;by_cases hsz:sz=0
  .subst hsz;simp at hj
  have hq:j/sz<len:=(Nat.div_lt_iff_lt_mul (Nat.pos_of_ne_zero hsz)).2 hj;have hjm:j/sz*sz+j%sz=j:=Nat.div_add_mod' j sz;have hx:((List.range len).map g)[j/sz]? =some (g (j/sz)):=by rw[aW,List.getElem?_range hq];rfl
  have hr:j%sz<(f (g (j/sz))).length:=by rw[hf];exact Nat.mod_lt _ (Nat.pos_of_ne_zero hsz)
  have h1:=da hf hx (aa hr);rw[hjm]at h1;rw[h1]at hu;have h2:=(hg (j/sz) Wq1).1 (j%sz) _ (aa hr);rw[hjm]at h2;rw[h2,hu]
 intro x hx;simp only[bn,List.mem_range]at hx;obtain⟨i,hi',rfl⟩:=hx;exact(hg i Wq1).2
theorem wP.rows{α:Type}{e:TypeId}{sz:Nat}{f:α->List Value}{Q:α->Prop}(ht:P.underlying t=some (.slice e))(hc:P.cellsOf e=sz)(hf:∀a,(f a).length=sz)(a0:α)
  (ho:∀es,Arg P w e es->∃a,es=f a/\Q a) (h:wP P w t v):
  ∃(A:Option Addr) (c:Nat) (xs:List α),v= .slice A xs.length c/\RdV w sz A xs.length c (xs.flatMap f)/\(∀x,x∈xs->Q x)/\c*P.bytesOf e<=140737488351232:=by
 obtain⟨⟨r,b,hk⟩,h⟩:=h;obtain⟨a,l,c,rfl⟩:=okWide_slice ht hk;obtain⟨A,c',xs,h1,h2⟩:=h.rows ht hc hf a0 ho;simp[Value.cells]at h1;obtain⟨rfl,rfl,rfl⟩:=h1;exact⟨_,_,_,rfl,h2⟩
end
def EqI(P:Program)(k e c:Nat)(xs ys:Array Value)(is:List Nat):Prop:=∀w:World,(Op.eqItems k e c xs ys is).run P w= .ok true w
theorem EqI.nil{P:Program}{k e c:Nat}{xs ys:Array Value}:EqI P k e c xs ys []:=λw=>rfl
theorem EqI.cons{P:Program}{k e c i:Nat}{xs ys:Array Value}{is:List Nat}{a b:Value}(ha:∀w,(part e xs (i*c)).run P w= .ok a w)(hb:∀w,(part e ys (i*c)).run P w= .ok b w)(he:EqV P k e a b)(h:EqI P k e c xs ys is):EqI P k e c xs ys (i::is):=λw=>by
 simp only[Op.eqItems,Sem.run_bind,ha w,hb w,Result.andThen_ok,he w,Bool.not_true,Bool.false_eq_true,if_false];exact h w
section
variable {C:Cx} {fr:Fr} {cs:List bC}
theorem y_neg{fr:Fr}{g:Bool}{x:Operand}{k:IntKind}{a r:Int}{d:Option Tmp}{T ty:TypeId}{pos:String}{af:Array Edge}{gd:Option (Nat×Bool)}(hx:Ev fr g x (.int k a))(hr:k.wrap (0 - a)=r):OpY C ⟨d,.unOp .neg T x,ty,pos,af,gd⟩ fr g Any (.int k r):=λA w hf _ hg=>by
 subst hr;unfold execOp;simp only[hx.eval hf hg]
 rfl
theorem retC2{fn:Func}{K:Value->List bC->Prop}{fr:Fr}{cs cs':List bC}{e:Exit}{t T bb tt u s:Nat}{v v':Value}{xs:List Value}(he:e= .ret\/e= .normal)(hs:cs'.Sublist cs)(h0:fn.results= #[.cell t T,.tmp u,.tmp s])(h1:look fr t=some (.p bb))(h2:look fr u=some v)(h3:look fr s=some v')(hc:Has cs (row bb xs tt))
  (hT:∀w,(isAgg T).run C.P w= .ok true w) (hz:∀w,(sizeOf T).run C.P w= .ok xs.length w) (hk:K (.tuple #[.agg xs.toArray,v,v']) cs'):QOk C (bodyPost C.P fn (AS C.w0 C.S K)) e fr cs:=
 ng he hs (λa w hf hi=>by
  have e1:=hf.at_ t _ h1;have e2:=hf.at_ u _ h2;have e3:=hf.at_ s _ h3;simp only[Array.getD_eq_getD_getElem?]at e1 e2 e3;simp[results,h0,e1,e2,e3,asAddr,gE hT hz hi hc]) hk
end
theorem Inv.Ta{S:List Nat}{cs cin:List bC}{w0 w w':World}(h:Inv w0 S cs w)(hT:∀c,c∈cin->c∈cs)(hk:cY (bD cin) w w'):cY S w0 w':=
 ⟨hk.os.trans h.Sf.os,hk.tape.trans h.Sf.tape,hk.output.trans h.Sf.output,aN h.Sf.size hk.size,λb hb hS=>by
  refine(hk.block b (Nat.lt_of_lt_of_le hb h.Sf.size) λhb2=>?_).trans (h.Sf.block b hb hS);obtain⟨c,hc,hbc⟩:=cW.1 hb2;rcases h.own b (cW.2 ⟨c,hT c hc,hbc⟩)with h1|h1
  ·exact hS h1
  omega⟩
section
variable {C:Cx} {fr:Fr} {d:Option Tmp} {ty:TypeId} {pos:String} {af:Array Edge} {gd:Option (Nat×Bool)} {g:Bool} {x y:Operand} {T T':TypeId}
theorem Ns{k:IntKind}{a b:Int}(hx:Ev fr g x (.int k a))(hy:Ev fr g y (.int k b)){r:Int}(hr:(if b<a then b else a)=r):OpY C ⟨d,.call {callee:= .builtin .min,args:= #[x,y],argTypes:= #[T,T']},ty,pos,af,gd⟩ fr g Any (.int k r):=λA w hf _ hg=>by
 subst hr;simp[execOp,resolve,invoke,builtin,hx.eval hf hg,hy.eval hf hg,Builtin.min_,Builtin.min2]
end
abbrev bQ(cin:List bC):bC:=exC (α:=Unit) (bD cin) (λ_=>cin) Zrf (λ_=>True)
theorem jk{cin:List bC}{w:World}(h:(bQ cin).ok w):∀c,c∈cin->c.ok w:=by
 obtain⟨_,_,_,h3⟩:=h;exact h3
theorem Inv.SO{w0 w w':World}{S:List Nat}{cs cin rest:List bC}{c:bC}(h:Inv w0 S cs w)(hp:eJ cin cs rest)(h2:Has rest c)(hk:cY (bD cin) w w'):c.ok w':=by
 have hc:=h.ok _ (hp.perm.symm.subset (List.mem_append_right _ h2.mem));refine c.loc w w' (λb hb=>hk.block b (c.lt w hc b hb) λhin=>?_) hc;have hn:=((hp.perm.flatMap_right bC.bs).nodup_iff).1 h.nodup;rw[List.flatMap_append]at hn;exact(List.nodup_append.1 hn).2.2 b hin b (cW.2 ⟨_,h2.mem,hb⟩) rfl
section
variable {C:Cx} {Q:lS} {fr:Fr} {cs r:List bC} {ops:Array Oper} {l:List Oper} {x:Code}
theorem lY(cin:List bC)(hs:eJ cin cs r)(h:WL C ops Q l fr (bQ cin::r)):WL C ops Q l fr cs:=ET () trivial hs h
end
section
variable {C:Cx} {fr:Fr} {cs:List bC} {d:Option Tmp} {ty:TypeId} {pos:String} {af:Array Edge} {gd:Option (Nat×Bool)} {x:Operand}
theorem JZ{f:FuncId}{l:List Operand}{vs fs caps:List Value}{ats:Array TypeId}{a:Act}{w:World}(hf:rj C.N fr a)(hx:ev fr x=some (.func (.func f) fs.toArray caps.toArray))(hl:evs fr l=some vs)(hc:∀args w,(callFunc f args).run C.P w= .ok (.enter f args) w):
  (execOp a.eval ⟨d,.call {callee:= .value x,args:=l.toArray,argTypes:=ats},ty,pos,af,gd⟩).run C.P w= .ok (.enter f (fs++vs++caps).toArray) w:=by
 have h1:=hf.ev hx;simp[execOp,resolve,invoke,Deferred.ofValue,h1,<-F8 hf hl,hc]
end
theorem BB{w0:World}{S:List Nat}{cs:List bC}{e sz n c b:Nat}{ad:Addr}{xs vs:List Value}(hc:Has cs (slv e sz (some ad) n c xs))(hv:∀j v,vs[j]? =some v->xs[b+j]? =some v):∀w,Inv w0 S cs w->cells (ez (ad.add b) 0 vs) w:=λw hi=>
 kW λj v hj=>by
  rw[Nat.add_zero];exact(dp (hi.get hc)).at_ ad rfl (b+j) v (hv j v hj)
theorem oh{w0:World}{S:List Nat}{cs:List bC}{n c j:Nat}{ad:Addr}{xs:List Value}{v:Value}(h:∀w',cY S w0 w'->RdV w' 1 (some ad) n c xs)(hv:xs[j]? =some v):∀w,Inv w0 S cs w->cells [(ad.add (j*1),v)] w:=λw hi z hz=>by
 rw[aB]at hz;subst hz;rw[Nat.mul_one];exact(h w hi.Sf).at_ ad rfl j v hv
theorem dO{w:World}{e sz n c:Nat}{A:Option Addr}{xs:List Value}(h:(slv e sz A n c xs).ok w)(hn:0<n):∃b,A=some ⟨b,0,none⟩:=by
 rcases h.2 with⟨_,h'⟩|⟨g',cap',cur,h',_⟩
 .omega
 simp only[Value.slice.injEq]at h';exact⟨g',h'.1⟩
theorem Fe{w0:World}{S:List Nat}{cs:List bC}{e sz n c j bb:Nat}{xs:List Value}{v:Value}(hc:Has cs (slv e sz (sA bb) n c xs))(hv:xs[j]? =some v):∀w,Inv w0 S cs w->cells [(⟨bb,j,none⟩,v)] w:=λw hi z hz=>by
 rw[aB]at hz;subst hz;have:=(hi.rd hc).at_ _ rfl j v hv;rw[Addr.add_lit,Nat.zero_add]at this;exact this
section
variable {C:Cx} {fr:Fr} {cs:List bC} {d:Option Nat} {T T':TypeId} {x y:Operand} {ty:TypeId} {pos:String} {af:Array Edge} {gd:Option (Nat×Bool)} {g:Bool} {v:Value}
theorem E4{bb o n c e sz:Nat}{xs:List Value}{mk:bC->List bC}(hT:∀w,(sizeOf T).run C.P w= .ok 1 w)(hx:ev fr x=some (.pointer (some ⟨bb,o,none⟩)))(hy:ev fr y=some v)(h1:v.oneCell'=true)(hu:At cs (slv e sz (sA bb) n c xs) mk)(ho:o<n*sz):
  OpT C ⟨d,.store T x y,ty,pos,af,gd⟩ fr cs true (λu cs'=>u=undef/\cs'=mk (slv e sz (sA bb) n c (xs.set o v))):=λa w hf hi next Q h=>by
 have hown:w.ownsRow 0 e sz (.slice (sA bb) n c) n xs:=hi.get hu.has;have hlen:=hown.1;have hc:w.cell? ⟨bb,o,none⟩=some (xs[o]'(by omega)):=by
  rw[hown.cellAt o Wq1];exact aa Wq1
 have hfz:w.frozen? ⟨bb,o,none⟩=false:=hown.frozenAt o;have hcs:v.cells= #[v]:=by cases v<;>first|rfl|cases h1
 have hr:(execOp a.eval ⟨d,.store T x y,ty,pos,af,gd⟩).run C.P w= .ok .skip (w.setCell ⟨bb,o,none⟩ v):=by
  simp[execOp,hf.ev hx,hf.ev hy,Instr.storeAt,Instr.sureAddr,storeVar,hT,hcs,storeCells,Addr.add_lit,run_store _ _ _ v _ h1,hc,hfz,stored]
 unfold Oper.wp;rw[hr];obtain⟨h2,h3⟩:=hown.stored o v;have hk:=cY.SY (show w.grownBy (w.setCell ⟨bb,o,none⟩ v) (Value.slice (sA bb) n c).ownBlock from h3);refine h _ _ _ ⟨rfl,rfl⟩ (hi.upd (hu _) hk (kA hk h2 λa ha=>?_)) (λe=>by cases e);obtain rfl:(⟨bb,0,none⟩:Addr)=a:=by simpa using ha
 left;simp[slv,bC.bs,ab]
end
section
variable {C:Cx} {fr:Fr} {cs:List bC} {d:Option Nat} {x y:Operand} {ty:TypeId} {pos:String} {af:Array Edge} {gd:Option (Nat×Bool)} {g:Bool} {v:Value}
theorem lX{f:FuncId}{l:List Operand}{vs:List Value}(hl:evs fr l=some vs):OpY C ⟨d,.makeFunc (.func f) #[] l.toArray,ty,pos,af,gd⟩ fr g Any (.func (.func f) #[] vs.toArray):=λA w hf _ hg=>by
 have h:=F8 hf hl;simp[execOp,Instr.makeFunc,<-h]
theorem iM{f:FuncId}{l:List Operand}{vs fs caps:List Value}{ats:Array TypeId}{K:Value->List bC->Prop}(cin:List bC){rest:List bC}(hx:ev fr x=some (.func (.func f) fs.toArray caps.toArray))(hl:evs fr l=some vs)(hc:∀args w,(callFunc f args).run C.P w= .ok (.enter f args) w)
  (hp:eJ cin cs rest) (h:∀w,Inv C.w0 C.S cs w->Inv w (bD cin) cin w->Ctr C.P f (fs++vs++caps) w cin K):
  OpT C ⟨d,.call {callee:= .value x,args:=l.toArray,argTypes:=ats},ty,pos,af,gd⟩ fr cs true (λv cs'=>∃cout,K v cout/\cs'=cout++rest):=λa w hf hinv next Q hn=>by
 have hin:Inv w (bD cin) cin w:=⟨cY.refl _ _,by
  have:=((hp.perm.flatMap_right bC.bs).nodup_iff).1 hinv.nodup;rw[show List.flatMap bC.bs (cin++rest)=bD cin++bD rest from e8 _ _]at this;exact(List.nodup_append.1 this).1,λc hc=>hinv.ok c (hp.perm.mem_iff.2 (aF.2 (.inl hc))),λb hb=> .inl hb⟩
 unfold Oper.wp;rw[JZ hf hx hl hc];refine Calls.mono (h w hinv hin) λe w' hq=>?_
 obtain⟨v,cout,rfl,hk,hi⟩:=hq;exact hn _ _ _ ⟨cout,hk,rfl⟩ (hinv.step hp.perm (.refl _) hi.Sf hi) (λe=>by cases e)
end
section
open Go.MapKept
open Go.ChangeMaps (setBlock)
open Go.Maps (Keyed)
abbrev Ky:=Int×Int
def kyV(q:Ky):Value:= .agg #[.w q.1,.w q.2]
def lj(q:Ky):Prop:=(0<=q.1/\q.1<=4294967295)/\(0<=q.2/\q.2<=4294967295)
theorem kyV_inj{p q:Ky}(h:kyV p=kyV q):p=q:=by
 grind [kyV,Value.agg.injEq,Value.int.injEq]
def cL{α:Type}(key:α->Ky)(k:Ky)(l:List α):Option Nat:=l.findIdx? λx=>key x==k
def dG{β:Type}(L:List (Ky×β))(k:Ky)(v:β):List (Ky×β):=match cL (·.1) k L with
 |some j=>L.set j (k,v)
 |none=>L++[(k,v)]
def ga{β:Type}(L:List (Ky×β))(k:Ky)(z:β):β:=((L.find? λx=>x.1==k).map (·.2)).getD z
def qp{β:Type}(L:List (Ky×β))(k:Ky):List (Ky×β):=match cL (·.1) k L with
 |some j=>L.eraseIdx j
 |none=>L
theorem ff{α:Type}{key:α->Ky}{k:Ky}{l:List α}{j:Nat}(h:cL key k l=some j):∃hj:j<l.length,key l[j]=k:=by
 grind [cL,List.findIdx?_eq_some_iff_getElem]
theorem ip{α:Type}{key:α->Ky}{k:Ky}{l:List α}(h:cL key k l=none):∀x,x∈l->key x≠k:=by
 grind [cL]
theorem BO{α:Type}{key:α->Ky}{k:Ky}{l:List α}(h:∀x,x∈l->key x≠k):cL key k l=none:=by
 grind [cL]
theorem j7{α β:Type}{key:α->Ky}{key':β->Ky}(f:α->β)(hf:∀x,key' (f x)=key x)(k:Ky)(l:List α):cL key' k (l.map f)=cL key k l:=by
 unfold cL;rw[List.findIdx?_map];congr 1
 grind
theorem rF{β:Type}{L:List (Ky×β)}{k:Ky}{j:Nat}(h:cL (·.1) k L=some j){v:β}(hv:L[j]? =some (k,v))(z:β):ga L k z=v:=by
 grind [cL,ga,List.findIdx?_eq_some_iff_getElem,List.getElem?_eq_getElem,List.find?_eq_some_iff_getElem]
theorem vf{β:Type}{L:List (Ky×β)}{k:Ky}(h:cL (·.1) k L=none)(z:β):ga L k z=z:=by
 grind [ga,ip]
theorem zr{α β:Type}(f:α->β)(L:List (Ky×α))(k:Ky)(z:α):ga (L.map λx=>(x.1,f x.2)) k (f z)=f (ga L k z):=by
 unfold ga;rw[List.find?_map];have:((λx:Ky×β=>x.1==k)∘λx:Ky×α=>(x.1,f x.2))=λx=>x.1==k:=rfl
 rw[this];cases L.find? (λx=>x.1==k)<;>rfl
theorem Fp{α β:Type}(f:α->β)(L:List (Ky×α))(k:Ky)(v:α):dG (L.map λx=>(x.1,f x.2)) k (f v)=(dG L k v).map λx=>(x.1,f x.2):=by
 unfold dG;rw[j7 (key:=λx:Ky×α=>x.1) (λx:Ky×α=>(x.1,f x.2)) Zrf]
 grind [cL,List.map_set]
structure sF(P:Program)(k:TypeId):Prop where
 K:Keyed P k
 at_:∀q,lj q->∃l,keyOf P k (kyV q)=some l
def nR(b:Nat)(L:List (Ky×Value))(w:World):Prop:=∃es clock,w.heap[b]? =some (.map es clock)/\Stamped es clock/\(es.toList.map λe=>(e.key,e.val))=(L.map λx=>(kyV x.1,x.2))/\∀x,x∈L->lj x.1
abbrev mpc(b:Nat)(L:List (Ky×Value)):bC:= .gen [b] (nR b L)
 (λw w' h hk=>by obtain⟨es,cl,h1,h2⟩:=hk;exact⟨es,cl,(h b (by simp)).trans h1,h2⟩)
 (λw hk b' hb=>by obtain⟨es,cl,h1,_⟩:=hk;grind)
theorem lm{w w':World}{bs:List Nat}{c':bC}(hk:cY bs w w')(hn:c'.bs.Nodup)(hok:c'.ok w')(hsub:∀b,b∈c'.bs->b∈bs\/w.heap.size<=b):Inv w bs [c'] w':=
 ⟨hk,by grind [bD],λc hc=>by grind,λb hb=>hsub b (by grind [bD])⟩
theorem gm{w:World}{b:Nat}{o o':Obj}(hb:w.heap[b]? =some o):cY [b] w (setBlock w b o'):=
 ⟨rfl,rfl,rfl,by simp[setBlock],λi _ hi=>(heap_set hb).2 i bR⟩
theorem es_at{es:Array MapEntry}{L:List (Ky×Value)}(h:(es.toList.map λe=>(e.key,e.val))=(L.map λx=>(kyV x.1,x.2))){j:Nat}{e:MapEntry}(he:es.toList[j]? =some e):∃q,L[j]? =some (q,e.val)/\e.key=kyV q:=by
 have h1:=congrArg (λl=>l[j]?) h
 grind
theorem Md{es:Array MapEntry}{L:List (Ky×Value)}(h:(es.toList.map λe=>(e.key,e.val))=(L.map λx=>(kyV x.1,x.2))){j:Nat}{x:Ky×Value}(he:L[j]? =some x):∃e,es.toList[j]? =some e/\e.key=kyV x.1/\e.val=x.2:=by
 have h1:=congrArg (λl=>l[j]?) h
 grind
theorem oE{es:Array MapEntry}{clock:Nat}(h:Stamped es clock){i j:Nat}{e f:MapEntry}(hi:es.toList[i]? =some e)(hj:es.toList[j]? =some f)(hk:e.key=f.key):i=j:=by
 obtain⟨h1,e1⟩:=aj.1 hi;obtain⟨h2,e2⟩:=aj.1 hj;exact(List.getElem_inj (xs:=es.toList.map (·.key)) (h₀:=by grind) (h₁:=by grind) h.2.2).1 bR
section
variable {P:Program} {k e:TypeId} {T:TypeId} {w:World} {b:Nat} {L:List (Ky×Value)} {q:Ky} {es:Array MapEntry} {clock:Nat}
theorem sq(hK:sF P k)(hs:Stamped es clock)(hL:(es.toList.map λe=>(e.key,e.val))=(L.map λx=>(kyV x.1,x.2)))(hok:∀x,x∈L->lj x.1)(hq:lj q)(w:World):
  (cL (·.1) q L=none/\(Instr.findKey k (kyV q) es.toList).run P w= .ok none w/\∀x∈es.toList,x.key≠kyV q)\/
  ∃j e,cL (·.1) q L=some j/\(Instr.findKey k (kyV q) es.toList).run P w= .ok (some (j,e.val)) w/\es.toList[j]? =some e/\e.key=kyV q/\L[j]? =some (q,e.val):=by
 obtain⟨lq,hlq⟩:=hK.at_ q hq;have hkeys:∀e∈es.toList,∃l,keyOf P k e.key=some l:=λe he=>by
  obtain⟨j,hj⟩:=List.getElem?_of_mem he;obtain⟨p,hp,hpe⟩:=es_at hL hj;rw[hpe];exact hK.at_ p (hok _ (ak hp))
 rcases hK.K.find w hlq es.toList hkeys with⟨h1,h2⟩|⟨j,e,h1,h2,h3⟩
 .grind [BO,Md,List.getElem?_of_mem,List.mem_of_getElem?]
 obtain⟨p,hp,hpe⟩:=es_at hL h2;obtain rfl:p=q:=kyV_inj (hpe.symm.trans h3);refine Or.inr ⟨j,e,?_,h1,h2,h3,hp⟩;cases hpl:cL (·.1) p L with
 |none=>grind [ip]
 |some i=>
  obtain⟨hi,hik⟩:=ff hpl;obtain⟨f,hf,hfk, -⟩:=Md hL (aa hi)
  grind [oE]
theorem O8(hT:P.underlying T=some (.map k e))(hK:sF P k){z:Value}(hz:(zeroValue e).run P w= .ok z w)(hq:lj q)(h:nR b L w)(c:Bool):
  (Instr.lookup T (.map (some b)) (kyV q) c).run P w= .ok (if c then .tuple #[ga L q z,.bool (cL (·.1) q L).isSome]else ga L q z) w:=by
 obtain⟨es,clock,hb,hs,hL,hok⟩:=h;obtain⟨lq,hlq⟩:=hK.at_ q hq;rcases sq hK hs hL hok hq w with⟨h1,h2,h3⟩|⟨j,e0,h1,h2,h3,h4,h5⟩
 .rw[vf h1,h1];cases c<;>simp[Instr.lookup,run_underlying hT,MapKept.run_getObj_map hb,hK.K.check w _ hlq,h2,hz,Result.andThen]
 rw[rF h1 h5,h1];cases c<;>simp[Instr.lookup,run_underlying hT,MapKept.run_getObj_map hb,hK.K.check w _ hlq,h2,Result.andThen]
theorem put_run(hT:P.underlying T=some (.map k e))(hK:sF P k)(hq:lj q)(h:nR b L w)(v:Value):
  ∃w',(Instr.mapUpdate T (.map (some b)) (kyV q) v).run P w= .ok () w'/\cY [b] w w'/\nR b (dG L q v) w':=by
 obtain⟨es,clock,hb,hs,hL,hok⟩:=h;obtain⟨lq,hlq⟩:=hK.at_ q hq;rcases sq hK hs hL hok hq w with⟨h1,h2,h3⟩|⟨j,e0,h1,h2,h3,h4,h5⟩
 .refine⟨setBlock w b (.map (es.push ⟨kyV q,v,clock⟩) (clock+1)),?_,gm hb,_,_,(heap_set hb).1,stamped_push hs h3,?_,?_⟩
  .simp[Instr.mapUpdate,run_underlying hT,MapKept.run_getObj_map hb,hK.K.check w false hlq,h2,MapKept.run_setObj_map _ hb,Result.andThen,setBlock]
  .grind [dG]
  grind [dG]
 have hj:es[j]? =some e0:=by simpa using h3
 have hkeyf:∀e',es[j]? =some e'->({e' with key:=kyV q,val:=v}:MapEntry).key=e'.key:=λe' he'=>by grind
 refine⟨setBlock w b (.map (es.modify j λe'=>{e' with key:=kyV q,val:=v}) clock),?_,gm hb,_,_,(heap_set hb).1,stamped_modify hs _ _ (λ_ _=>rfl) (λe' _ he'=>hkeyf e' he'),?_,?_⟩
 .simp[Instr.mapUpdate,run_underlying hT,MapKept.run_getObj_map hb,hK.K.check w false hlq,h2,hj,h4,hK.K.stays w hlq,MapKept.run_setObj_map _ hb,Result.andThen,setBlock]
 .simp_all [dG,ChangeMaps.modify_eq_set]
 grind [dG]
theorem sX(es:Array MapEntry){j:Nat}(hj:j<es.toList.length):(es.eraseIdxIfInBounds j).toList=es.toList.eraseIdx j:=by
 simp_all
theorem del_run(hT:P.underlying T=some (.map k e))(hK:sF P k)(hq:lj q)(h:nR b L w)(ty:TypeId):
  ∃w',(Builtin.delete_ #[T,k] ty #[.map (some b),kyV q]).run P w= .ok (.tuple #[]) w'/\cY [b] w w'/\nR b (qp L q) w':=by
 obtain⟨es,clock,hb,hs,hL,hok⟩:=h;obtain⟨lq,hlq⟩:=hK.at_ q hq;rcases sq hK hs hL hok hq w with⟨h1,h2,h3⟩|⟨j,e0,h1,h2,h3,h4,h5⟩
 .refine⟨setBlock w b (.map es clock),?_,gm hb,_,_,(heap_set hb).1,hs,?_,?_⟩
  .exact QN
  .grind [qp]
  grind [qp]
 have hjl:=(aj.1 h3).1;refine⟨setBlock w b (.map (es.eraseIdxIfInBounds j) clock),?_,gm hb,_,_,(heap_set hb).1,stamped_erase hs j,?_,?_⟩
 .exact QN
 .grind [qp,sX,ChangeMaps.map_eraseIdx]
 grind [qp,List.eraseIdx_sublist]
end
def AU(b r:Nat)(L:List (Bool×Ky×Value))(cur:Option (Ky×Value))(w:World):Prop:=
 ∃es clock since seen c0,w.heap[b]? =some (.map es clock)/\Stamped es clock/\w.heap[r]? =some (.mapIter (some b) since seen c0)/\(∀x∈es.toList,x.born<since)/\since<=c0/\since<=clock/\
  (es.toList.map λe=>(seen.contains e.born,e.key,e.val))=(L.map λx=>(x.1,kyV x.2.1,x.2.2))/\(∀x,x∈L->lj x.2.1)/\b≠r/\
  ∀q v,cur=some (q,v)->c0=clock/\∃e∈es.toList,∃sn:Array Nat,seen=sn.push e.born/\e.key=kyV q/\e.val=v
abbrev itC(b r:Nat)(L:List (Bool×Ky×Value))(cur:Option (Ky×Value)):bC:= .gen [b,r] (AU b r L cur)
 (λw w' h hk=>by obtain⟨es,cl,si,se,c0,h1,h2,h3,h4⟩:=hk;exact⟨es,cl,si,se,c0,(h b (by simp)).trans h1,h2,(h r (by simp)).trans h3,h4⟩)
 (λw hk b' hb=>by
  obtain⟨es,cl,si,se,c0,h1,h2,h3,h4⟩:=hk
  grind)
abbrev IV:=Option (Nat×Ky×Value)
def Hn(o:IV):List Value:=match o with|none=>[.bool false]|some (_,q,v)=>[.bool true,kyV q,v]
def DS(L:List (Bool×Ky×Value))(o:IV):List (Bool×Ky×Value):=match o with|none=>L|some (j,q,v)=>L.set j (true,q,v)
def KJ(o:IV):Option (Ky×Value):=o.map (·.2)
def Rf(L:List (Bool×Ky×Value))(o:IV):Prop:=match o with|none=>∀x,x∈L->x.1=true|some (j,q,v)=>L[j]? =some (false,q,v)
theorem Rk{b r:Nat}{L:List (Bool×Ky×Value)}{cur:Option (Ky×Value)}{w:World}(h:AU b r L cur w):nR b (L.map (·.2)) w:=by
 obtain⟨es,clock,since,seen,c0,hb,hs,hr,hold,hsc,hsk,hL,hok,hne,hcur⟩:=h;refine⟨es,clock,hb,hs,?_,λx hx=>?_⟩
 .have:=congrArg (List.map (·.2)) hL;simp only[List.map_map]at this|-;exact this
 grind
theorem OP{P:Program}{b r:Nat}{L:List (Bool×Ky×Value)}{cur:Option (Ky×Value)}{w:World}(h:AU b r L cur w)(ty:TypeId):
  ∃o w',Rf L o/\(Instr.next (.p r) false ty).run P w= .ok (.tuple (Hn o).toArray) w'/\cY [b,r] w w'/\AU b r (DS L o) (KJ o) w':=by
 obtain⟨es,clock,since,seen,c0,hb,hs,hr,hold,hsc,hsk,hL,hok,hne,hcur⟩:=h;rcases run_next_at (P:=P) w ty r b since c0 seen es clock hr hb hold hsc with⟨h0,jP⟩|⟨e,he,w1,hal,jP⟩
 .refine⟨none,w,λx hx=>?_,jP,cY.refl _ _,es,clock,since,seen,c0,hb,hs,hr,hold,hsc,hsk,hL,hok,hne,λq v e=>by cases e⟩;have ha:=all_seen es seen h0;obtain⟨j,hj⟩:=List.getElem?_of_mem hx;have h1:=congrArg (λl=>l[j]?) hL
  grind
 obtain⟨hem,hes⟩:=mem_left he;obtain⟨j,hj⟩:=List.getElem?_of_mem hem;have h1:=congrArg (λl=>l[j]?) hL;simp only[aW,hj,Option.map_some]at h1;cases hl:L[j]? with
 |none=>grind
 |some x=>
  obtain⟨f,q,v⟩:=x;rw[hl]at h1;simp only[Option.map_some,aU,aX]at h1;obtain⟨h1,h2,h3⟩:=h1;rw[hes]at h1;subst h1 h3;have hr1:w1.heap[r]? =some (.mapIter (some b) since seen c0):=by rcases hal with rfl|rfl<;>exact hr
  have hb1:w1.heap[b]? =some (.map es clock):=by rcases hal with rfl|rfl<;>exact hb
  have hset:=heap_set (o':= .mapIter (some b) since (seen.push e.born) clock) hr1;have hkp:cY [b,r] w (setBlock w1 r (.mapIter (some b) since (seen.push e.born) clock)):=by
   have hk1:=gm (o':= .mapIter (some b) since (seen.push e.born) clock) hr1;rcases hal with rfl|rfl<;>exact⟨rfl,rfl,rfl,hk1.size,λi hi hn=>hk1.block i hi (by simp at hn|-;omega)⟩
  refine⟨some (j,q,e.val),_,hl,by rw[jP,h2];rfl,hkp,es,clock,since,seen.push e.born,clock,(hset.2 b hne).trans hb1,hs,hset.1,hold,hsk,hsk,?_,λx hx=>?_,hne,λq' v' e'=>?_⟩
  .show _=(L.set j (true,q,e.val)).map _;rw[List.map_set,<-hL];apply List.ext_getElem?;intro i;rw[aW,List.getElem?_set];by_cases hij:j=i
   .grind
   rw[if_neg hij,aW];cases hi:es.toList[i]? with
   |none=>rfl
   |some x=>
    have hxb:(x.born==e.born)=false:=by
     rw[beq_eq_false_iff_ne];intro hbe;have:=born_inj hs.2.1 (ak hi) hem hbe;subst this;exact hij (oE hs hj hi rfl)
    grind
  .rcases List.mem_or_eq_of_mem_set hx with hx|rfl
   .grind
   grind
  grind [KJ]
theorem Mf{P:Program}{b r:Nat}{L:List (Bool×Ky×Value)}{q:Ky}{v:Value}{w:World}(h:AU b r L (some (q,v)) w):(Instr.entry (.p r)).run P w= .ok (.tuple #[kyV q,v]) w:=by
 obtain⟨es,clock,since,seen,c0,hb,hs,hr,hold,hsc,hsk,hL,hok,hne,hcur⟩:=h;obtain⟨rfl,e,he,sn,rfl,h1,rfl⟩:=hcur q v rfl;rw[<-h1];exact run_entry_at w r b since sn es c0 e hr hb he hs.2.1
def wZ(L:List (Bool×Ky×Value))(q:Ky):List (Bool×Ky×Value):=match cL (·.2.1) q L with
 |some j=>L.eraseIdx j
 |none=>L
section
variable {P:Program} {k e:TypeId} {T:TypeId} {w:World} {b r:Nat} {L:List (Bool×Ky×Value)} {cur:Option (Ky×Value)} {q:Ky}
theorem Lk(hT:P.underlying T=some (.map k e))(hK:sF P k)(hq:lj q)(h:AU b r L cur w)(ty:TypeId):
  ∃w',(Builtin.delete_ #[T,k] ty #[.map (some b),kyV q]).run P w= .ok (.tuple #[]) w'/\cY [b,r] w w'/\AU b r (wZ L q) none w':=by
 have hm:=Rk h;obtain⟨es,clock,since,seen,c0,hb,hs,hr,hold,hsc,hsk,hL,hok,hne,hcur⟩:=h;obtain⟨lq,hlq⟩:=hK.at_ q hq;have hL2:(es.toList.map λe=>(e.key,e.val))=((L.map (·.2)).map λx=>(kyV x.1,x.2)):=by
  have:=congrArg (List.map (·.2)) hL;simp only[List.map_map]at this|-;exact this
 have hok2:∀x,x∈L.map (·.2)->lj x.1:=λx hx=>by grind
 have hpl:cL (·.1) q (L.map (·.2))=cL (·.2.1) q L:=j7 (key:=λx:Bool×Ky×Value=>x.2.1) (key':=λx:Ky×Value=>x.1) (·.2) Zrf q L;rcases sq hK hs hL2 hok2 hq w with⟨h1,h2,h3⟩|⟨j,e0,h1,h2,h3,h4,h5⟩
 .rw[hpl]at h1;have hk1:=gm (o':= .map es clock) hb;refine⟨setBlock w b (.map es clock),?_,⟨rfl,rfl,rfl,hk1.size,λi hi hn=>hk1.block i hi bR⟩,es,clock,since,seen,c0,(heap_set hb).1,hs,((heap_set hb).2 r hne.symm).trans hr,hold,hsc,hsk,?_,?_,hne,λ_ _ e=>by cases e⟩
  .exact QN
  .grind [wZ]
  grind [wZ]
 rw[hpl]at h1;have hjl:=(aj.1 h3).1;have hk1:=gm (o':= .map (es.eraseIdxIfInBounds j) clock) hb;refine⟨setBlock w b (.map (es.eraseIdxIfInBounds j) clock),?_,⟨rfl,rfl,rfl,hk1.size,λi hi hn=>hk1.block i hi bR⟩,es.eraseIdxIfInBounds j,clock,since,seen,c0,(heap_set hb).1,stamped_erase hs j,((heap_set hb).2 r hne.symm).trans hr,?_,hsc,hsk,?_,?_,hne,λ_ _ e=>by cases e⟩
 .exact QN
 .grind
 .grind [wZ,sX,ChangeMaps.map_eraseIdx]
 grind [wZ,List.eraseIdx_sublist]
theorem Li(hT:P.underlying T=some (.map k e))(hK:sF P k)(h:AU b r L cur w){j:Nat}{f:Bool}{v0:Value}(hj:L[j]? =some (f,q,v0))(v:Value):
  ∃w',(Instr.mapUpdate T (.map (some b)) (kyV q) v).run P w= .ok () w'/\cY [b,r] w w'/\AU b r (L.set j (f,q,v)) none w':=by
 obtain⟨es,clock,since,seen,c0,hb,hs,hr,hold,hsc,hsk,hL,hok,hne,hcur⟩:=h;have hq:lj q:=hok _ (ak hj);obtain⟨lq,hlq⟩:=hK.at_ q hq;have hL2:(es.toList.map λe=>(e.key,e.val))=((L.map (·.2)).map λx=>(kyV x.1,x.2)):=by
  have:=congrArg (List.map (·.2)) hL;simp only[List.map_map]at this|-;exact this
 have hok2:∀x,x∈L.map (·.2)->lj x.1:=λx hx=>by grind
 rcases sq hK hs hL2 hok2 hq w with⟨h1,h2,h3⟩|⟨i,e0,h1,h2,h3,h4,h5⟩
 .grind [ip]
 have hij:i=j:=by
  have hjj:(L.map (·.2))[j]? =some (q,v0):=by rw[aW,hj];rfl
  obtain⟨f1,hf1,hf2, -⟩:=Md hL2 hjj;exact oE hs h3 hf1 (by rw[h4,hf2])
 subst hij;have hji:es[i]? =some e0:=by simpa using h3
 have hkeyf:∀e',es[i]? =some e'->({e' with key:=kyV q,val:=v}:MapEntry).key=e'.key:=λe' he'=>by grind
 have hk1:=gm (o':= .map (es.modify i λe'=>{e' with key:=kyV q,val:=v}) clock) hb;have hset:(es.modify i λe'=>{e' with key:=kyV q,val:=v}).toList=es.toList.set i {e0 with key:=kyV q,val:=v}:=by rw[Array.toList_modify,ChangeMaps.modify_eq_set _ _ _ _ h3]
 refine⟨setBlock w b (.map (es.modify i λe'=>{e' with key:=kyV q,val:=v}) clock),?_,⟨rfl,rfl,rfl,hk1.size,λi hi hn=>hk1.block i hi bR⟩,_,clock,since,seen,c0,(heap_set hb).1,stamped_modify hs _ _ (λ_ _=>rfl) (λe' _ he'=>hkeyf e' he'),((heap_set hb).2 r hne.symm).trans hr,?_,hsc,hsk,?_,?_,hne,λ_ _ e=>by cases e⟩
 .simp[Instr.mapUpdate,run_underlying hT,MapKept.run_getObj_map hb,hK.K.check w false hlq,h2,hji,h4,hK.K.stays w hlq,MapKept.run_setObj_map _ hb,Result.andThen,setBlock]
 .grind
 .rw[hset,List.map_set,List.map_set,hL];have h6:=congrArg (λl=>l[i]?) hL
  grind
 grind
end
section
variable {C:Cx} {fr:Fr} {cs:List bC} {d:Option Nat} {T k e:TypeId} {x y z:Operand} {ty:TypeId} {pos:String} {af:Array Edge} {gd:Option (Nat×Bool)} {g:Bool} {v:Value} {b r:Nat} {L:List (Ky×Value)} {IL:List (Bool×Ky×Value)} {cur:Option (Ky×Value)} {q:Ky} {mk:bC->List bC}
theorem I4{zv:Value}(hx:Ev fr g x (.map (some b)))(hy:Ev fr g y (kyV q))(hq:lj q)(hT:C.P.underlying T=some (.map k e))(hK:sF C.P k)(hz:∀w,(zeroValue e).run C.P w= .ok zv w):
  OpY C ⟨d,.lookup T x y false,ty,pos,af,gd⟩ fr g (nR b L) (ga L q zv):=λa w hf hv hg=>by
 have:=O8 hT hK (hz w) hq hv false;simp[execOp,hx.eval hf hg,hy.eval hf hg,this]
theorem y_mlen(hx:Ev fr g x (.map (some b)))(hT:C.P.underlying T=some (.map k e)):OpY C ⟨d,.call {callee:= .builtin .len,args:= #[x],argTypes:= #[T]},ty,pos,af,gd⟩ fr g (nR b L) (.i (L.length:Int)):=λa w hf hv hg=>by
 obtain⟨es,clock,hb,hs,hL,hok⟩:=hv;have e1:es.size=L.length:=by
  have:=congrArg List.length hL;simpa using this
 simp[execOp,resolve,invoke,builtin,hx.eval hf hg,Builtin.len_,run_underlying hT,MapKept.run_getObj_map hb,goInt,Result.andThen,e1]
theorem Dt(hT:C.P.underlying T=some (.map k e)):OpT C ⟨d,.makeMap T none,ty,pos,af,gd⟩ fr cs false (λv cs'=>∃b,v= .map (some b)/\cs'=cs++[mpc b []]):=λa w hf hi next Q h=>by
 have hr:(execOp a.eval ⟨d,.makeMap T none,ty,pos,af,gd⟩).run C.P w= .ok (.value (.map (some w.heap.size))) (w.alloc (.map #[] 0)):=by
  have:=run_makeMap (P:=C.P) T w;simp[execOp,this]
 unfold Oper.wp;rw[hr];refine h _ _ _ ⟨_,rfl,rfl⟩ (hi.more (lm (cY.SM ((Below.refl _ _).alloc (aL _) _) _) (by simp[bC.bs]) ⟨#[],0,zY w _,stamped_empty 0,by simp,by simp⟩ λb hb=>?_)) (λ_=>AL.alloc w _)
 grind [bC.bs]
theorem t_mput(hx:ev fr x=some (.map (some b)))(hy:ev fr y=some (kyV q))(hz:ev fr z=some v)(hq:lj q)(hT:C.P.underlying T=some (.map k e))(hK:sF C.P k)(hu:At cs (mpc b L) mk):
  OpT C ⟨d,.mapUpdate T x y z,ty,pos,af,gd⟩ fr cs true (λu cs'=>u=undef/\cs'=mk (mpc b (dG L q v))):=λa w hf hi next Q h=>by
 obtain⟨w',h1,h2,h3⟩:=put_run hT hK hq (hi.get hu.has) v;unfold Oper.wp;have hr:(execOp a.eval ⟨d,.mapUpdate T x y z,ty,pos,af,gd⟩).run C.P w= .ok .skip w':=by simp[execOp,hf.ev hx,hf.ev hy,hf.ev hz,h1]
 rw[hr];exact h _ _ _ ⟨rfl,rfl⟩ (hi.upd (hu _) h2 (lm h2 (by simp[bC.bs]) h3 (λb hb=>Or.inl hb))) (λe=>by cases e)
theorem t_mdel(hx:ev fr x=some (.map (some b)))(hy:ev fr y=some (kyV q))(hq:lj q)(hT:C.P.underlying T=some (.map k e))(hK:sF C.P k)(hu:At cs (mpc b L) mk):
  OpT C ⟨d,.call {callee:= .builtin .delete,args:= #[x,y],argTypes:= #[T,k]},ty,pos,af,gd⟩ fr cs true (λu cs'=>u= .tuple #[]/\cs'=mk (mpc b (qp L q))):=λa w hf hi next Q h=>by
 obtain⟨w',h1,h2,h3⟩:=del_run hT hK hq (hi.get hu.has) ty;unfold Oper.wp;have hr:(execOp a.eval ⟨d,.call {callee:= .builtin .delete,args:= #[x,y],argTypes:= #[T,k]},ty,pos,af,gd⟩).run C.P w= .ok (.value (.tuple #[])) w':=by simp[execOp,resolve,invoke,builtin,hf.ev hx,hf.ev hy,h1]
 rw[hr];exact h _ _ _ ⟨rfl,rfl⟩ (hi.upd (hu _) h2 (lm h2 (by simp[bC.bs]) h3 (λb hb=>Or.inl hb))) (λe=>by cases e)
theorem NU(hx:ev fr x=some (.map (some b)))(hT:C.P.underlying T=some (.map k e))(hu:At cs (mpc b L) mk):
  OpT C ⟨d,.call {callee:= .builtin .clear,args:= #[x],argTypes:= #[T]},ty,pos,af,gd⟩ fr cs true (λu cs'=>u= .tuple #[]/\cs'=mk (mpc b [])):=λa w hf hi next Q h=>by
 obtain⟨es,clock,hb,hs,hL,hok⟩:=(show nR b L w from hi.get hu.has);have hr:(execOp a.eval ⟨d,.call {callee:= .builtin .clear,args:= #[x],argTypes:= #[T]},ty,pos,af,gd⟩).run C.P w= .ok (.value (.tuple #[])) (setBlock w b (.map #[] clock)):=by
  simp[execOp,resolve,invoke,builtin,hf.ev hx,Builtin.clear_,run_underlying hT,MapKept.run_getObj_map hb,MapKept.run_setObj_map _ hb,Result.andThen,setBlock]
 unfold Oper.wp;rw[hr];exact h _ _ _ ⟨rfl,rfl⟩ (hi.upd (hu _) (gm hb) (lm (gm hb) (by simp[bC.bs]) ⟨#[],clock,(heap_set hb).1,stamped_empty clock,by simp,by simp⟩ (λb hb=>Or.inl hb))) (λe=>by cases e)
theorem E5(hx:ev fr x=some (.map (some b)))(hT:C.P.underlying T=some (.map k e))(hu:At cs (mpc b L) mk):
  OpT C ⟨d,.range T x,ty,pos,af,gd⟩ fr cs true (λu cs'=>∃r,u= .p r/\cs'=mk (itC b r (L.map λx=>(false,x)) none)):=λa w hf hi next Q h=>by
 obtain⟨es,clock,hb,hs,hL,hok⟩:=(show nR b L w from hi.get hu.has);have hlt:b<w.heap.size:=(Array.getElem?_eq_some_iff.1 hb).1;have jP:=run_range_map (P:=C.P) w T k e b es clock hT hb;have hr:(execOp a.eval ⟨d,.range T x,ty,pos,af,gd⟩).run C.P w= .ok (.value (.p w.heap.size)) (w.alloc (.mapIter (some b) clock #[] clock)):=by
  simp[execOp,hf.ev hx,jP]
 have hk:cY [b] w (w.alloc (.mapIter (some b) clock #[] clock)):=cY.SM ((Below.refl _ _).alloc (aL _) _) _;unfold Oper.wp;rw[hr];refine h _ _ _ ⟨_,rfl,rfl⟩ (hi.upd (hu _) hk (lm hk ?_ ⟨es,clock,clock,#[],clock,((MapKept.heap_alloc w _).2 b hlt).trans hb,hs,zY w _,hs.1,aL _,aL _,?_,?_,by omega,λ_ _ e=>by cases e⟩ λb' hb'=>?_)) (λe=>by cases e)
 .simp[bC.bs];omega
 .rw[List.map_map];have e1:=congrArg (List.map λp:Value×Value=>(false,p.1,p.2)) hL;simp only[List.map_map]at e1;have e2:(λe:MapEntry=>((#[]:Array Nat).contains e.born,e.key,e.val))=λe=>(false,e.key,e.val):=by funext e;simp
  rw[e2];exact e1
 .grind
 grind [bC.bs]
theorem JK(hx:ev fr x=some (.p r))(hu:At cs (itC b r IL cur) mk):
  OpT C ⟨d,.next x false,ty,pos,af,gd⟩ fr cs true (λu cs'=>∃o:IV,Rf IL o/\u= .tuple (Hn o).toArray/\cs'=mk (itC b r (DS IL o) (KJ o))):=λa w hf hi next Q h=>by
 obtain⟨o,w',h1,h2,h3,h4⟩:=OP (P:=C.P) (show AU b r IL cur w from hi.get hu.has) ty
 have hne:b≠r:=by obtain⟨_,_,_,_,_,_,_,_,_,_,_,_,_,hne,_⟩:=h4;exact hne
 have hr:(execOp a.eval ⟨d,.next x false,ty,pos,af,gd⟩).run C.P w= .ok (.value (.tuple (Hn o).toArray)) w':=by simp[execOp,hf.ev hx,h2]
 unfold Oper.wp;rw[hr];exact h _ _ _ ⟨o,h1,rfl,rfl⟩ (hi.upd (hu _) h3 (lm h3 (by grind [bC.bs]) h4 (λb hb=>Or.inl hb))) (λe=>by cases e)
theorem I3{o:IV}(hx:Ev fr g x (.tuple (Hn o).toArray)):OpY C ⟨d,.extract x 0,ty,pos,af,gd⟩ fr g Any (.bool o.isSome):=λa w hf _ hg=>by
 rcases o with _|⟨j,q,v⟩
 .simp[execOp,hx.eval hf hg,Instr.extract,Hn]
 simp[execOp,hx.eval hf hg,Instr.extract,Hn]
theorem I8(hx:Ev fr g x (.p r)):OpY C ⟨d,.entry x,ty,pos,af,gd⟩ fr g (AU b r IL (some (q,v))) (.tuple #[kyV q,v]):=λa w hf hv hg=>by
 simp[execOp,hx.eval hf hg,Mf hv]
theorem t_itdel(hx:ev fr x=some (.map (some b)))(hy:ev fr y=some (kyV q))(hq:lj q)(hT:C.P.underlying T=some (.map k e))(hK:sF C.P k)(hu:At cs (itC b r IL cur) mk):
  OpT C ⟨d,.call {callee:= .builtin .delete,args:= #[x,y],argTypes:= #[T,k]},ty,pos,af,gd⟩ fr cs true (λu cs'=>u= .tuple #[]/\cs'=mk (itC b r (wZ IL q) none)):=λa w hf hi next Q h=>by
 obtain⟨w',h1,h2,h3⟩:=Lk hT hK hq (show AU b r IL cur w from hi.get hu.has) ty;have hne:b≠r:=by obtain⟨_,_,_,_,_,_,_,_,_,_,_,_,_,hne,_⟩:=h3;exact hne
 unfold Oper.wp;have hr:(execOp a.eval ⟨d,.call {callee:= .builtin .delete,args:= #[x,y],argTypes:= #[T,k]},ty,pos,af,gd⟩).run C.P w= .ok (.value (.tuple #[])) w':=by simp[execOp,resolve,invoke,builtin,hf.ev hx,hf.ev hy,h1]
 rw[hr];exact h _ _ _ ⟨rfl,rfl⟩ (hi.upd (hu _) h2 (lm h2 (by grind [bC.bs]) h3 (λb hb=>Or.inl hb))) (λe=>by cases e)
theorem t_itput{j:Nat}{f:Bool}{v0:Value}(hj:IL[j]? =some (f,q,v0))(hx:ev fr x=some (.map (some b)))(hy:ev fr y=some (kyV q))(hz:ev fr z=some v)(hT:C.P.underlying T=some (.map k e))(hK:sF C.P k)(hu:At cs (itC b r IL cur) mk):
  OpT C ⟨d,.mapUpdate T x y z,ty,pos,af,gd⟩ fr cs true (λu cs'=>u=undef/\cs'=mk (itC b r (IL.set j (f,q,v)) none)):=λa w hf hi next Q h=>by
 obtain⟨w',h1,h2,h3⟩:=Li hT hK (show AU b r IL cur w from hi.get hu.has) hj v;have hne:b≠r:=by obtain⟨_,_,_,_,_,_,_,_,_,_,_,_,_,hne,_⟩:=h3;exact hne
 unfold Oper.wp;have hr:(execOp a.eval ⟨d,.mapUpdate T x y z,ty,pos,af,gd⟩).run C.P w= .ok .skip w':=by simp[execOp,hf.ev hx,hf.ev hy,hf.ev hz,h1]
 rw[hr];exact h _ _ _ ⟨rfl,rfl⟩ (hi.upd (hu _) h2 (lm h2 (by grind [bC.bs]) h3 (λb hb=>Or.inl hb))) (λe=>by cases e)
theorem Inv.itEnd{w0 w:World}{S:List Nat}{rest:List bC}(h:Inv w0 S (itC b r IL cur::rest) w):Inv w0 S (mpc b (IL.map (·.2))::rest) w:=by
 have hm:nR b (IL.map (·.2)) w:=Rk (show AU b r IL cur w from h.ok (itC b r IL cur) (List.mem_cons_self ..));have hn:=h.nodup;rw[eH]at hn;refine⟨h.Sf,?_,λc hc=>?_,λx hx=>h.own x ?_⟩
 .rw[eH];exact(List.Sublist.append (show([b]:List Nat).Sublist [b,r]from(List.Sublist.slnil.cons r).cons_cons b) (aR _)).nodup hn
 .rcases aG.1 hc with rfl|hc
  .exact hm
  exact h.ok c (List.mem_cons_of_mem _ hc)
 grind [eH,bC.bs]
end
end
end Go.Ink
