/- Lemmas. -/
import Derived.Test.YtepfimeihngjoaaGreatDoorXat
import Derived.Test.YtepfimeihngjoaaGreatDoorXaw
set_option linter.all false
set_option maxRecDepth 100000
set_option maxHeartbeats 4000000
namespace Go.Ink
open List renaming length→J, replicate→R9
open IntKind renaming wrap→V9
open Go.RowKit Go.Proofs.Tryz
section
open Go.MapKept
open Go.ChangeMaps (setBlock)
theorem PL{α:Type}(cur vs:List α)(o m:Nat)(h:o+J vs<=m)(hm:m<=J cur):(cur.take o++vs++cur.drop (o+J vs)).take m=(cur.take m).take o++vs++(cur.take m).drop (o+J vs):=by
 rw[List.take_append,List.take_of_length_le bZ,List.take_take,Nat.min_eq_left O,List.drop_take,ar,aO,Nat.min_eq_left O]
section
variable{C:Cx}{fr:Fr}{cs:List bJ}{d:Option Nat}{T k e:TypeId}{x y z:Operand}{ty:TypeId}{pos:String}{af:Array Edge}{gd:Option (Nat×Bool)}{v:Value}{mk:bJ->List bJ}
variable{xs:List Value}
theorem uH{bb o n c sz:Nat}{vs:List Value}(hT:∀w,(sizeOf T).run C.P w= .ok sz w)(hx:ev fr x=some (.pointer (some ⟨bb,o,none⟩)))(hy:ev fr y=some (.agg vs.toArray))(h1:∀u∈vs,u.oneCell'=true)(hu:At cs (slv e sz (sA bb) n c xs) mk)(hn:J vs=sz)(ho:o+sz<=n*sz):
  VU C ⟨d,.store T x y,ty,pos,af,gd⟩ fr cs true (λu cs'=>u=undef/\cs'=mk (slv e sz (sA bb) n c (xs.take o++vs++xs.drop (o+sz)))):=λa w hf hi next Q h=>by
 have hown:w.ownsRow 0 e sz (.slice (sA bb) n c) n xs:=hi.get hu.has;obtain⟨hl0,h2⟩:=hown;rcases h2 with⟨hv,_⟩|⟨g',cap,cur,hv,hg0,hh,hnc,hcm,hcs,htk⟩
 .cases hv
 simp only[Value.slice.injEq,bh,Addr.mk.injEq,and_true,true_and]at hv;obtain⟨rfl,rfl⟩:=hv;have hle:n*sz<=c*sz:=Nat.mul_le_mul_right _ hnc;have hcl:J cur.toList=c*sz:=by simpa using hcs
 have hst:=run_storeCells_at C.P bb o e vs 0 cur w hh O h1;simp only[Nat.add_zero]at hst;have hk:dc [bb] w (w.setRow bb (cur.toList.take o++vs++cur.toList.drop (o+J vs)).toArray):=⟨I,I,I,by simp_all,λj _ hj=>by
  grind [World.setRow]⟩
 have hr:(execOp a.eval ⟨d,.store T x y,ty,pos,af,gd⟩).run C.P w= .ok .skip (w.setRow bb (cur.toList.take o++vs++cur.toList.drop (o+J vs)).toArray):=by
  simp[execOp,hf.ev hx,hf.ev hy,Instr.storeAt,Instr.sureAddr,storeVar,hT,Value.cells,hst,hn]
 have hown2:(w.setRow bb (cur.toList.take o++vs++cur.toList.drop (o+J vs)).toArray).ownsRow 0 e sz (.slice (sA bb) n c) n (xs.take o++vs++xs.drop (o+sz)):=by
  refine⟨?_,.inr ⟨bb,c,(cur.toList.take o++vs++cur.toList.drop (o+J vs)).toArray,I,hg0,?_,hnc,hcm,?_,?_⟩⟩
  .grind
  .exact wu
  .grind
  grind [PL]
 unfold Oper.wp;rw[hr];refine h _ _ _ ⟨I,I⟩ (hi.upd (hu _) wX (kS wX hown2 λa ha=>?_)) (λe=>by cases e)
 grind [bJ.bs,ab]
theorem AM{bb o k cc n c sz:Nat}{zs:List Value}{z:Value}(hx:ev fr x=some (.slice (some ⟨bb,o,none⟩) k cc))(hu:At cs (slv e sz (sA bb) n c xs) mk)(ht:C.P.underlying T=some (.slice e))(hz:∀w,(zeroValue e).run C.P w= .ok z w)(hz1:z.cells=zs.toArray)(hzl:J zs=sz)(hs0:0<sz)(hz2:∀u∈zs,u.oneCell'=true)(hno:n*sz<=o)(hoc:o+k*sz<=c*sz):
  VU C ⟨d,.call {callee:= .builtin .clear,args:= #[x],argTypes:= #[T]},ty,pos,af,gd⟩ fr cs true (λv cs'=>v= .tuple #[]/\cs'=mk (slv e sz (sA bb) n c xs)):=λa w hf hi next Q h=>by
 have hown:w.ownsRow 0 e sz (.slice (sA bb) n c) n xs:=hi.get hu.has;obtain⟨hl0,h2⟩:=hown;rcases h2 with⟨hv,_⟩|⟨g',cap,cur,hv,hg0,hh,hnc,hcm,hcs,htk⟩
 .cases hv
 simp only[Value.slice.injEq,bh,Addr.mk.injEq,and_true,true_and]at hv;obtain⟨rfl,rfl⟩:=hv;have hcl:J cur.toList=c*sz:=by simpa using hcs
 obtain⟨ZC,hZC⟩:=Do ((Builtin.zeroCells zs.toArray k).toList);have hZl:J ZC=k*sz:=by rw[<-hZC,yn,hzl]
 have hst:=run_storeCells_at C.P bb o e ZC 0 cur w hh O (λu hu=>hz2 u (ym zs k O u bZ));simp only[Nat.add_zero]at hst;have key:∃w',(Builtin.clear_ #[T] ty #[.slice (some ⟨bb,o,none⟩) k cc]).run C.P w= .ok (.tuple #[]) w'/\dc [bb] w w'/\w'.ownsRow 0 e sz (.slice (sA bb) n c) n xs:=by
  cases k with
  |zero=>
   refine⟨w,by simp[Builtin.clear_,run_underlying ht],dc.refl _ _,⟨hl0,.inr ⟨bb,c,cur,rfl,hg0,hh,hnc,hcm,hcs,htk⟩⟩⟩
  |succ k=>
   refine⟨w.setRow bb (cur.toList.take o++ZC++cur.toList.drop (o+J ZC)).toArray,?_,⟨I,I,I,by simp_all,λj _ hj=>?_⟩,⟨hl0,.inr ⟨bb,c,(cur.toList.take o++ZC++cur.toList.drop (o+J ZC)).toArray,I,hg0,?_,hnc,hcm,?_,?_⟩⟩⟩
   .simp_all [Builtin.clear_,Sem.run_bind,Result.andThen,run_underlying]
   .exact wu
   .exact wu
   .grind
   grind
 obtain⟨w',ka,hk,ho⟩:=key;have hr':(execOp a.eval ⟨d,.call {callee:= .builtin .clear,args:= #[x],argTypes:= #[T]},ty,pos,af,gd⟩).run C.P w= .ok (.value (.tuple #[])) w':=by
  simp[execOp,resolve,invoke,builtin,hf.ev hx,ka]
 unfold Oper.wp;rw[hr'];refine h _ _ _ ⟨I,I⟩ (hi.upd (hu _) wX (kS wX ho λa ha=>?_)) (λe=>by cases e)
 grind [bJ.bs,ab]
end
theorem E6{e sz n c i:Nat}{A:Oa}{xs:List Value}(hi:i<=n)(w:World)(h:(slv e sz A n c xs).ok w):(slv e sz A i c (xs.take (i*sz))).ok w:=by
 obtain⟨h1,h2⟩:=h;have hle:i*sz<=n*sz:=Nat.mul_le_mul_right _ hi;refine⟨by grind,?_⟩
 grind
section
variable{C:Cx}{Q:lK}{fr:Fr}{cs:List bJ}{c:bJ}{cin cin' rest r1:List bJ}
variable{w0 w:World}{S:List Nat}
theorem Inv.T6(h:Inv w0 S (dm cin::rest) w)(hp:cin.Perm (c::cin')):Inv w0 S (c::dm cin'::rest) w:=by
 obtain⟨_,_,h1⟩:=h.T9;have h2:Inv w0 S (cin'++(c::rest)) w:=h1.perm ((hp.append_right rest).trans List.perm_middle.symm);exact(Inv.TK (F:=λ_:Unit=>cin') (hb:=λ_=>I) (p:=λ_=>True) () trivial h2).perm (List.Perm.swap ..)
theorem Inv.Uy(h:Inv w0 S (c::dm cin::rest) w)(hp:cin'.Perm (c::cin)):Inv w0 S (dm cin'::rest) w:=by
 obtain⟨_,_,h1⟩:=(h.perm (List.Perm.swap ..)).T9;have h2:Inv w0 S (cin'++rest) w:=h1.perm (List.perm_middle.trans ((hp.append_right rest).symm));exact Inv.TK (F:=λ_:Unit=>cin') (hb:=λ_=>I) (p:=λ_=>True) () trivial h2
theorem Inv.Ux(h:Inv w0 S (dm cin::rest) w)(hs:cin'.Sublist cin):Inv w0 S (dm cin'::rest) w:=by
 obtain⟨_,_,h1⟩:=h.T9;exact Inv.TK (F:=λ_:Unit=>cin') (hb:=λ_=>I) (p:=λ_=>True) () trivial (h1.drop (hs.append (aL _)))
variable{ops:Array Oper}{l:List Oper}
theorem CZ(hd:WB cs (dm cin) rest)(hp:cin.Perm (c::cin'))(h:WL C ops Q l fr (c::dm cin'::rest)):WL C ops Q l fr cs:=λa w hf hi=>h a w hf ((hi.perm hd.perm).T6 hp)
theorem GL(hd:WB cs (dm cin) r1)(hd2:WB r1 c rest)(hp:cin'.Perm (c::cin))(h:WL C ops Q l fr (dm cin'::rest)):WL C ops Q l fr cs:=λa w hf hi=>h a w hf (((hi.perm (hd.perm.trans (hd2.perm.cons _))).perm (List.Perm.swap ..)).Uy hp)
theorem xd(hd:WB cs (dm cin) rest)(hs:cin'.Sublist cin)(h:WL C ops Q l fr (dm cin'::rest)):WL C ops Q l fr cs:=λa w hf hi=>h a w hf ((hi.perm hd.perm).Ux hs)
theorem Inv.joinGet(h:Inv w0 S cs w)(hh:Vk cs (dm cin))(hc:c∈cin):c.ok w:=oJ (h.get hh) c hc
theorem UW.join{P:Program}{f:FuncId}{args:List Value}{K:Value->List bJ->Prop}(hi:Inv w (bM [dm cin]) [dm cin] w)(h:Inv w (bM cin) cin w->UW P f args w cin K):UW P f args w [dm cin] (λv cs=>∃cs0,K v cs0/\cs=[dm cs0]):=by
 have eb:∀c:List bJ,bM [dm c]=bM c:=λc=>by simp[bM,dm,Wg,bJ.bs]
 have hi2:Inv w (bM cin) cin w:=by
  obtain⟨_,_,h1⟩:=hi.T9;rw[aD,eb]at h1;exact h1
 refine Calls.mono (h hi2) λe w' hq=>?_
 obtain⟨v,cout,rfl,hk,hi3⟩:=hq;refine⟨v,[dm cout],I,⟨cout,hk,I⟩,?_⟩;rw[eb];exact Inv.TK (F:=λ_:Unit=>cout) (hb:=λ_=>I) (p:=λ_=>True) () trivial bZ
end
def NW(b:Nat)(L:List (Ky×Value))(j:Nat)(st:Nat)(w:World):Prop:=∃es clock,w.heap[b]? =some (.map es clock)/\Stamped es clock/\(es.toList.map λe=>(e.key,e.val))=(L.map λx=>(VI x.1,x.2))/\(∀x,x∈L->lD x.1)/\∃e,es.toList[j]? =some e/\e.born=st
abbrev meC(b:Nat)(L:List (Ky×Value))(j:Nat)(st:Nat):bJ:= .gen [b] (NW b L j st)
 (λw w' h hk=>by obtain⟨es,cl,h1,h2⟩:=hk;exact⟨es,cl,(h b (by simp)).trans h1,h2⟩)
 (λw hk b' hb=>by obtain⟨es,cl,h1,_⟩:=hk;grind)
section
variable{C:Cx}{fr:Fr}{cs:List bJ}{d:Option Nat}{T k e:TypeId}{x y z:Operand}{ty:TypeId}{pos:String}{af:Array Edge}{gd:Option (Nat×Bool)}{v zv:Value}{b j st:Nat}{L:List (Ky×Value)}{q:Ky}{mk:bJ->List bJ}
theorem OA(hx:ev fr x=some (.map (some b)))(hy:ev fr y=some (VI q))(hq:lD q)(hT:C.P.underlying T=some (.map k e))(hK:sj C.P k)(hz:∀w,(zeroValue e).run C.P w= .ok zv w)(hu:At cs (V0 b L) mk):
  VU C ⟨d,.mapEntry T x y,ty,pos,af,gd⟩ fr cs true (λu cs'=>∃st:Nat,u= .tuple #[gr L q zv,.i (st:Int)]/\cs'=mk (meC b (vc L q zv) (zm L q) st)):=λa w hf hi next Q h=>by
 obtain⟨es,clock,hb,hs,hL,hok⟩:=(show oc b L w from hi.get hu.has);obtain⟨lq,hlq⟩:=hK.at_ q hq;have key:∃w' st,(Instr.mapEntry T (.map (some b)) (VI q)).run C.P w= .ok (.tuple #[gr L q zv,.i ((st:Nat):Int)]) w'/\dc [b] w w'/\NW b (vc L q zv) (zm L q) st w':=by
  rcases rM hK hs hL hok hq w with⟨h1,h2,h3⟩|⟨j,e0,h1,h2,h3,h4,h5⟩
  .refine⟨setBlock w b (.map (es.push ⟨VI q,zv,clock⟩) (clock+1)),clock,?_,gy hb,_,_,(heap_set hb).1,stamped_push hs h3,?_,?_,?_⟩
   .rw[uT h1];simp[Instr.mapEntry,run_underlying hT,MapKept.run_getObj_map hb,hK.K.check w false hlq,h2,hz,MapKept.run_setObj_map _ hb,Result.andThen,setBlock,goInt]
   .grind [vc]
   .grind [vc]
   have e1:J L=J es.toList:=by have:=congrArg List.length hL;simpa using this.symm
   simp_all [VI,zm]
  have hj:es[j]? =some e0:=by simpa using h3
  have hkeyf:∀e',es[j]? =some e'->({e' with key:=VI q}:MapEntry).key=e'.key:=λe' he'=>by grind
  have hset:(es.modify j λe'=>{e' with key:=VI q}).toList=es.toList.set j {e0 with key:=VI q}:=by rw[Array.toList_modify,ChangeMaps.modify_eq_set _ _ _ _ h3]
  refine⟨setBlock w b (.map (es.modify j λe'=>{e' with key:=VI q}) clock),e0.born,?_,gy hb,_,_,(heap_set hb).1,stamped_modify hs _ _ (λ_ _=>I) (λe' _ he'=>hkeyf e' he'),?_,?_,?_⟩
  .rw[rq h1 h5];simp[Instr.mapEntry,run_underlying hT,MapKept.run_getObj_map hb,hK.K.check w false hlq,h2,hj,h4,hK.K.stays w hlq,MapKept.run_setObj_map _ hb,Result.andThen,setBlock,goInt]
  .unfold vc;rw[h1,hset,List.map_set,hL];dsimp only;have h6:(L.map λx=>(VI x.1,x.2))[j]? =some (VI q,e0.val):=by rw[List.getElem?_map,h5];rfl
   apply List.ext_getElem?
   grind
  .grind [vc]
  grind [VI,zm]
 obtain⟨w',st,h1,h2,h3⟩:=key;unfold Oper.wp;have hr:(execOp a.eval ⟨d,.mapEntry T x y,ty,pos,af,gd⟩).run C.P w= .ok (.value (.tuple #[gr L q zv,.i (st:Int)])) w':=by simp[execOp,hf.ev hx,hf.ev hy,h1]
 rw[hr];exact h _ _ _ ⟨st,I,I⟩ (hi.upd (hu _) h2 (nM h2 (by simp[bJ.bs]) h3 (λb hb=>Or.inl hb))) (λe=>by cases e)
theorem J6{v0:Value}(hj:L[j]? =some (q,v0))(hx:ev fr x=some (.map (some b)))(hy:ev fr y=some (.i (st:Int)))(hz:ev fr z=some v)(hu:At cs (meC b L j st) mk):
  VU C ⟨d,.entryStore T x y z,ty,pos,af,gd⟩ fr cs true (λu cs'=>u=undef/\cs'=mk (V0 b (L.set j (q,v)))):=λa w hf hi next Q h=>by
 obtain⟨es,clock,hb,hs,hL,hok,e0,he0,rfl⟩:=(show NW b L j st w from hi.get hu.has);have hji:es[j]? =some e0:=by simpa using he0
 have hf0:es.findIdx? (λe=>((e.born:Nat):Int)==(e0.born:Int))=some j:=by
  rw[Array.findIdx?_eq_some_iff_getElem];obtain⟨hjl,hje⟩:=Array.getElem?_eq_some_iff.1 hji;refine⟨hjl,by simp[hje],λi hi=>?_⟩;simp only[Bool.not_eq_true,bF,ne_eq];intro hbe;have hil:i<es.size:=by omega
  have e1:es[i]=e0:=born_inj hs.2.1 cJ (aG he0) O;have e2:es.toList[i]? =some e0:=by simp[hil,e1]
  have:=oL hs e2 he0 I;omega
 have ka:(Instr.entryStore T (.map (some b)) (.i (e0.born:Int)) v).run C.P w= .ok () (setBlock w b (.map (es.modify j λe=>{e with val:=v}) clock)):=by
  have h0:(asInt (Value.i (e0.born:Int))).run C.P w= .ok (e0.born:Int) w:=rfl;simp[Instr.entryStore,MapKept.run_getObj_map hb,h0,hf0,MapKept.run_setObj_map _ hb,Result.andThen,setBlock]
 have hset:(es.modify j λe=>{e with val:=v}).toList=es.toList.set j {e0 with val:=v}:=by rw[Array.toList_modify,ChangeMaps.modify_eq_set _ _ _ _ he0]
 have hm:oc b (L.set j (q,v)) (setBlock w b (.map (es.modify j λe=>{e with val:=v}) clock)):=by
  refine⟨_,clock,(heap_set hb).1,stamped_modify hs _ _ (λ_ _=>I) (λ_ _ _=>I),?_,?_⟩
  .grind [YF,List.map_set]
  grind
 have hr:(execOp a.eval ⟨d,.entryStore T x y z,ty,pos,af,gd⟩).run C.P w= .ok .skip (setBlock w b (.map (es.modify j λe=>{e with val:=v}) clock)):=by simp[execOp,hf.ev hx,hf.ev hy,hf.ev hz,ka]
 unfold Oper.wp;rw[hr];exact h _ _ _ ⟨I,I⟩ (hi.upd (hu _) (gy hb) (nM (gy hb) (by simp[bJ.bs]) hm (λb hb=>Or.inl hb))) (λe=>by cases e)
end
end
theorem nz{w0:World}{S:List Nat}{cs:List bJ}{e sz n c o bb:Nat}{xs vs:List Value}(hc:Vk cs (slv e sz (sA bb) n c xs))(hv:∀i v,vs[i]? =some v->xs[o+i]? =some v):∀w,Inv w0 S cs w->cells (fa ⟨bb,o,none⟩ 0 vs) w:=λw hi z hz=>by
 obtain⟨j,h1,h2⟩:=gW hz;have:=(hi.rd hc).at_ _ I (o+j) z.2 (hv j z.2 h1)
 grind [Addr.add_lit]
variable{α:Type}{l:List α}{x:α}
theorem qI{k:Nat}(h:l[k]? =some x):l.drop k=x::l.drop (k+1):=by
 grind [List.getElem?_eq_some_iff,List.drop_eq_getElem_cons]
theorem Ca{α:Type}{f:α->List Value}{sz:Nat}(hf:∀a,J (f a)=sz):∀(l:List α) (i:Nat),(l.flatMap f).drop (i*sz)=(l.drop i).flatMap f
 |[],i=>by simp
 |x::l,0=>by simp
 |x::l,i+1=>by
  rw[List.flatMap_cons,List.drop_succ_cons,<-Ca hf l i,show(i+1)*sz=J (f x)+i*sz by grind,List.drop_length_add_append]
theorem zG{f:α->List Value}{sz:Nat}(hf:∀a,J (f a)=sz){l:List α}{i:Nat}{x:α}(hi:i<J l):(l.flatMap f).take (i*sz)++f x++(l.flatMap f).drop (i*sz+sz)=(l.set i x).flatMap f:=by
 rw[qz hf,show i*sz+sz=(i+1)*sz by grind,Ca hf,List.set_eq_take_append_cons_drop,if_pos hi,List.flatMap_append,List.flatMap_cons,aw]
variable{o:Option Nat}
theorem rK{α:Type}{D:α->Bool}:∀{l:List α} {i:Nat},l.findIdx? D=some i->i<J l/\l.take i++(l.drop (i+1)).filter (λx=> !D x)=l.filter (λx=> !D x)/\1+J ((l.drop (i+1)).filter D)=J (l.filter D)
 |[],i,h=>by simp at h
 |x::l,i,h=>by
  rw[List.findIdx?_cons]at h;cases hd:D x with
  |true=>
   grind
  |false=>
   rw[hd]at h;simp only[Bool.false_eq_true,if_false,Option.map_eq_some_iff]at h;obtain⟨j,hj,rfl⟩:=h;obtain⟨h1,h2,h3⟩:=rK hj
   grind
variable{j:Nat}
theorem mW(x:BA):∀u∈x.cells,u.oneCell'=true:=λu h=>by
 simp only[BA.cells,aI,aY,or_false]at h;rcases h with rfl|rfl|rfl|rfl<;>rfl
section
attribute [local irreducible] Ve bN
variable{ρ:Type}
theorem L4(Y:ρ->bJ)(ok:ρ->Prop)(step:ρ->BA->ρ)(D:BA->Bool)(f:FuncId)(caps:List Value)(HF:∀args w,(callFunc f args).run prog w= .ok (.enter f args) w)(l:List BA)(hl:J l<=1000000)
  (HC:∀(r:ρ) (x:BA) (w:World),ok r->x∈l->Inv w (bM [Y r]) [Y r] w->UW prog f ([]++[.agg (BA.cells x).toArray]++caps) w [Y r] (λv cs=>v= .bool (D x)/\cs=[Y (step r x)]/\ok (step r x)))
  (A:Oa) (c:Nat) (r0:ρ) (hok:ok r0) :CI prog 217 [.slice A (J l) c,.func (.func f) #[] caps.toArray] [slv 262 4 A (J l) c (l.flatMap BA.cells),Y r0] (λv cs=>∃r',v= .i (L1 (l.findIdx? D))/\r'=(l.take (idxN (J l) (l.findIdx? D))).foldl step r0/\ok r'/\cs=[slv 262 4 A (J l) c (l.flatMap BA.cells),Y r']):=λw hi=>by
 refine Vb func217 ntmps217 hi ?_;refine kF ?_;refine Vs (λq:Nat×ρ=>[(0,.slice A (J l) c),(1,.func (.func f) #[] caps.toArray),(7,.i (J l:Int)),(8,.i (q.1:Int))]) (λq=>[slv 262 4 A (J l) c (l.flatMap BA.cells),Y q.2]) (λq=>(q.1<=J l/\q.2=(l.take q.1).foldl step r0/\ok q.2)/\l.findIdx? D=((l.drop q.1).findIdx? D).map (· +q.1)) (λq=>J l - q.1) (⟨0,r0⟩) ?_ ?_
 .simp_all
 rintro⟨j,r⟩ ⟨⟨hj,hr,hrk⟩,hf⟩;dsimp only at hj hr hrk hf|-;refine UH ?_ ?_<;>intro hc2
 .simp only[ai]at hc2;have hjl:j<J l:=O;obtain⟨bs,rfl⟩:=iu (hi.get (UJ (slv 262 4 A (J l) c (l.flatMap BA.cells)))) O;obtain⟨x,hx⟩:∃x,l[j]? =some x:=⟨_,ak hjl⟩;rw[qI hx,List.findIdx?_cons]at hf;refine nW ?_;refine Zy (cn (bb:=bs) (o:=0) (n:=J l) (c:=c) (j:=j) (sz:=4) (r:=j*4) I ir (Zv I) (Zv I) ir UL O) ?_;refine dZ (bX (vs:=BA.cells x) ir ir py) (nz Zh (λi v XE=>fw (f:=BA.cells) ir hx XE)) I (Rj ?_);rintro _ _ ⟨_,⟨rfl,rfl,hrk2⟩,rfl⟩;obtain⟨r2,hr2⟩:=Do (step r x);rw[hr2]at hrk2|-;have hr3:r2=(l.take (j+1)).foldl step r0:=(by rw[<-hr2,hr,qd hx]);refine An ?_;refine ZW ?_ ?_<;>intro hc4
  .rw[hc4,if_pos rfl]at hf;have hf:l.findIdx? D=some j:=bZ;rw[hf];refine fR ?_;refine bK [slv 262 4 (sA bs) (J l) c (l.flatMap BA.cells),Y r2] Zj (VA ([_,_]) ?_);exact⟨r2,I,hr3,hrk2,I⟩
  exact Wx35_
 simp only[aa]at hc2;obtain rfl:j=J l:=O;exact Wq330
theorem delB_ok(Y:ρ->bJ)(ok:ρ->Prop)(step:ρ->BA->ρ)(D:BA->Bool)(f:FuncId)(caps:List Value)(HF:∀args w,(callFunc f args).run prog w= .ok (.enter f args) w)(l:List BA)(hl:J l<=1000000)
  (HC:∀(r:ρ) (x:BA) (w:World),ok r->x∈l->Inv w (bM [Y r]) [Y r] w->UW prog f ([]++[.agg (BA.cells x).toArray]++caps) w [Y r] (λv cs=>v= .bool (D x)/\cs=[Y (step r x)]/\ok (step r x)))
  (A:Oa) (c:Nat) (r0:ρ) (hok:ok r0) :CI prog 171 [.slice A (J l) c,.func (.func f) #[] caps.toArray] [slv 262 4 A (J l) c (l.flatMap BA.cells),Y r0] (λv cs=>v= .slice A (J (l.filter λx=> !D x)) c/\cs=[slv 262 4 A (J (l.filter λx=> !D x)) c ((l.filter λx=> !D x).flatMap BA.cells),Y (l.foldl step r0)]):=λw hi=>by
 have HI:=L4 Y ok step D f caps HF l hl HC A c r0 hok;have hcap:=(hi.rd (.head (slv 262 4 A (J l) c (l.flatMap BA.cells)) _)).cap;have hfn:=Cc (D:=D) (l:=l);have hfs:=λi=>rK (D:=D) (l:=l) (i:=i)
 obtain⟨o,ho⟩:=Do (l.findIdx? D);rw[ho]at HI hfn hfs;refine Vb func171 ntmps171 hi ?_;refine U8 ?_;refine dH ([slv 262 4 A (J l) c (l.flatMap BA.cells),Y r0]) (λw hi hin=>HI w hin) ?_;rintro _ _ ⟨r1,rfl,hr1,hok1,rfl⟩;refine oU ?_ ?_<;>intro hc2
 .obtain rfl:=FM hc2;obtain⟨hf1,hf2⟩:=hfn I;refine Va ?_;exact Wq472
 obtain⟨i0,rfl⟩:=FJ hc2;obtain⟨hf1,hf2,hf3⟩:=hfs i0 I;obtain⟨bs,rfl⟩:=iu (hi.get (UJ (slv 262 4 A (J l) c (l.flatMap BA.cells)))) O;refine Wq461 ?_;refine Vs (λq:(Nat×Nat)×List BA×ρ=>[(0,.slice (sA bs) (J l) c),(1,.func (.func f) #[] caps.toArray),(5,.i (q.1.1:Int)),(6,.i (q.1.2:Int))]) (λq=>[slv 262 4 (sA bs) (J l) c (q.2.1.flatMap BA.cells),Y q.2.2]) (λq=>(q.2.2=(l.take q.1.2).foldl step r0/\ok q.2.2)/\q.1.1<q.1.2/\q.1.2<=J l/\J q.2.1=J l/\q.2.1.drop q.1.2=l.drop q.1.2/\q.2.1.take q.1.1++(l.drop q.1.2).filter (λx=> !D x)=l.filter (λx=> !D x)) (λq=>J l - q.1.2) (⟨(i0,i0+1),l,r1⟩) ⟨⟨hr1,hok1⟩,Nat.lt_succ_self _,by grind,rfl,rfl,hf2⟩ ?_;rintro⟨⟨i,j⟩,V,r⟩ ⟨⟨hr,hrk⟩,hij,hj,hV,hVd,hT⟩;dsimp only at hr hrk hij hj hV hVd hT|-;refine Wc ?_ ?_<;>intro hc5
 .simp only[ai]at hc5;have hjl:j<J l:=O;obtain⟨x,hx⟩:∃x,l[j]? =some x:=⟨_,ak hjl⟩;have hVx:V[j]? =some x:=(by have:=congrArg (λz=>z[0]?) hVd;grind);rw[qI hx]at hT;rw[qI hx,qI hVx,List.cons.injEq]at hVd;rw[List.filter_cons]at hT;refine Va ?_;refine Zy (cn (bb:=bs) (o:=0) (n:=J l) (c:=c) (j:=j) (sz:=4) (r:=j*4) I ir (Zv I) (Zv I) ir UL O) ?_;refine dZ (bX (vs:=BA.cells x) ir ir py) (nz Zh (λi v XE=>fw (f:=BA.cells) ir hVx XE)) I ?_;refine ZN λb7=>?_
  refine eA (cL ir I I (mW x) Za mS) ?_;refine UR ?_;refine UU ?_;refine Rj ?_;rintro _ _ ⟨_,⟨rfl,rfl,hrk2⟩,rfl⟩;obtain⟨r2,hr2⟩:=Do (step r x);rw[hr2]at hrk2|-;have hr3:r2=(l.take (j+1)).foldl step r0:=(by rw[<-hr2,hr,qd hx]);refine VP ?_ ?_<;>intro hc8
  .have hD:D x=false:=bZ;rw[hD]at hT;simp only[Bool.not_false,if_true]at hT;refine UQ ?_;refine Zy (cn (bb:=bs) (o:=0) (n:=J l) (c:=c) (j:=i) (sz:=4) (r:=i*4) I ir (Zv I) (Zv I) ir UL O) ?_;refine eA (uH (sz:=4) (n:=J l) (vs:=BA.cells x) ir I I (mW x) Za I O) ?_;refine UR ?_;rw[zG (f:=BA.cells) (sz:=4) ir (show i<J V by omega)];refine UK ?_;refine mT ?_;refine UU ?_;refine W8 ?_;refine Vd ((⟨(i+1,j+1),V.set i x,r2⟩:(Nat×Nat)×List BA×ρ)) ⟨⟨⟨hr3,hrk2⟩,by grind,by grind,by grind,by dsimp only;rw[List.drop_set_of_lt O,hVd.2],by dsimp only;rw[List.take_succ_eq_append_getElem bZ,List.take_set_of_le (aK _),List.getElem_set_self,aw];exact hT⟩,by grind⟩
  have hD:D x=true:=bZ;rw[hD]at hT;simp only[Bool.not_true,Bool.false_eq_true,if_false]at hT;refine j5 ?_;refine Vd ((⟨(i,j+1),V,r2⟩:(Nat×Nat)×List BA×ρ)) bZ
 simp only[aa]at hc5;obtain rfl:j=J l:=O;rw[List.drop_length]at hT;rw[List.filter_nil,aD]at hT;rw[List.take_length]at hr;have hil:J (l.filter λx=> !D x)=i:=bZ;refine U8 ?_;refine Zy (lb (bb:=bs) (o:=0) (n:=J l) (c:=c) (lo:=i) (hi:=J l) (r:=0+i*4) (sz:=4) I ir (Zv I) (.inr ⟨_,_,I,(Zv I)⟩) (.inl ⟨I,I⟩) O O O O) ?_;refine pt (c:=slv 262 4 (sA bs) (J l) c (V.flatMap BA.cells)) (c':=slv 262 4 (sA bs) i c ((V.flatMap BA.cells).take (i*4))) Za I (E6 O) ?_
 refine eA (AM I Za I ir (sz:=4) I I ne (by intro u hu;simp only[aI,aY,or_false]at hu;rcases hu with rfl|rfl|rfl|rfl<;>rfl) O O) ?_;refine UR ?_;refine UU ?_;refine Zy (fc i I ir (Zv I) (Zv I) qR UL) ?_;refine UK ?_;refine VA ([_,_]) ?_;rw[hil,qz (f:=BA.cells) (sz:=4) ir,hT,<-hr];exact fx
theorem idxK_ok(Y:ρ->bJ)(ok:ρ->Prop)(step:ρ->Ky->ρ)(D:Ky->Bool)(f:FuncId)(caps:List Value)(HF:∀args w,(callFunc f args).run prog w= .ok (.enter f args) w)(l:List Ky)(hl:J l<=1000000)
  (HC:∀(r:ρ) (x:Ky) (w:World),ok r->x∈l->Inv w (bM [Y r]) [Y r] w->UW prog f ([]++[.agg (cD x).toArray]++caps) w [Y r] (λv cs=>v= .bool (D x)/\cs=[Y (step r x)]/\ok (step r x)))
  (A:Oa) (c:Nat) (r0:ρ) (hok:ok r0) :CI prog 283 [.slice A (J l) c,.func (.func f) #[] caps.toArray] [slv 173 2 A (J l) c (l.flatMap cD),Y r0] (λv cs=>∃r',v= .i (L1 (l.findIdx? D))/\r'=(l.take (idxN (J l) (l.findIdx? D))).foldl step r0/\ok r'/\cs=[slv 173 2 A (J l) c (l.flatMap cD),Y r']):=λw hi=>by
 refine Vb func283 ntmps283 hi ?_;refine kF ?_;refine Vs (λq:Nat×ρ=>[(0,.slice A (J l) c),(1,.func (.func f) #[] caps.toArray),(7,.i (J l:Int)),(8,.i (q.1:Int))]) (λq=>[slv 173 2 A (J l) c (l.flatMap cD),Y q.2]) (λq=>(q.1<=J l/\q.2=(l.take q.1).foldl step r0/\ok q.2)/\l.findIdx? D=((l.drop q.1).findIdx? D).map (· +q.1)) (λq=>J l - q.1) (⟨0,r0⟩) ?_ ?_
 .simp_all
 rintro⟨j,r⟩ ⟨⟨hj,hr,hrk⟩,hf⟩;dsimp only at hj hr hrk hf|-;refine UH ?_ ?_<;>intro hc2
 .simp only[ai]at hc2;have hjl:j<J l:=O;obtain⟨bs,rfl⟩:=iu (hi.get (UJ (slv 173 2 A (J l) c (l.flatMap cD)))) O;obtain⟨x,hx⟩:∃x,l[j]? =some x:=⟨_,ak hjl⟩;rw[qI hx,List.findIdx?_cons]at hf;refine nW ?_;refine Zy (cn (bb:=bs) (o:=0) (n:=J l) (c:=c) (j:=j) (sz:=2) (r:=j*2) I ir (Zv I) (Zv I) ir UL O) ?_;refine dZ (bX (vs:=cD x) ir ir py) (nz Zh (λi v XE=>fw (f:=cD) ir hx XE)) I (Rj ?_);rintro _ _ ⟨_,⟨rfl,rfl,hrk2⟩,rfl⟩;obtain⟨r2,hr2⟩:=Do (step r x);rw[hr2]at hrk2|-;have hr3:r2=(l.take (j+1)).foldl step r0:=(by rw[<-hr2,hr,qd hx]);refine An ?_;refine ZW ?_ ?_<;>intro hc4
  .rw[hc4,if_pos rfl]at hf;have hf:l.findIdx? D=some j:=bZ;rw[hf];refine fR ?_;refine bK [slv 173 2 (sA bs) (J l) c (l.flatMap cD),Y r2] Zj (VA ([_,_]) ?_);exact⟨r2,I,hr3,hrk2,I⟩
  exact Wx35_
 simp only[aa]at hc2;obtain rfl:j=J l:=O;exact Wq330
theorem delK_ok(Y:ρ->bJ)(ok:ρ->Prop)(step:ρ->Ky->ρ)(D:Ky->Bool)(f:FuncId)(caps:List Value)(HF:∀args w,(callFunc f args).run prog w= .ok (.enter f args) w)(l:List Ky)(hl:J l<=1000000)
  (HC:∀(r:ρ) (x:Ky) (w:World),ok r->x∈l->Inv w (bM [Y r]) [Y r] w->UW prog f ([]++[.agg (cD x).toArray]++caps) w [Y r] (λv cs=>v= .bool (D x)/\cs=[Y (step r x)]/\ok (step r x)))
  (A:Oa) (c:Nat) (r0:ρ) (hok:ok r0) :CI prog 219 [.slice A (J l) c,.func (.func f) #[] caps.toArray] [slv 173 2 A (J l) c (l.flatMap cD),Y r0] (λv cs=>v= .slice A (J (l.filter λx=> !D x)) c/\cs=[slv 173 2 A (J (l.filter λx=> !D x)) c ((l.filter λx=> !D x).flatMap cD),Y (l.foldl step r0)]):=λw hi=>by
 have HI:=idxK_ok Y ok step D f caps HF l hl HC A c r0 hok;have hcap:=(hi.rd (.head (slv 173 2 A (J l) c (l.flatMap cD)) _)).cap;have hfn:=Cc (D:=D) (l:=l);have hfs:=λi=>rK (D:=D) (l:=l) (i:=i)
 obtain⟨o,ho⟩:=Do (l.findIdx? D);rw[ho]at HI hfn hfs;refine Vb func219 ntmps219 hi ?_;refine U8 ?_;refine dH ([slv 173 2 A (J l) c (l.flatMap cD),Y r0]) (λw hi hin=>HI w hin) ?_;rintro _ _ ⟨r1,rfl,hr1,hok1,rfl⟩;refine oU ?_ ?_<;>intro hc2
 .obtain rfl:=FM hc2;obtain⟨hf1,hf2⟩:=hfn I;refine Va ?_;exact Wq472
 obtain⟨i0,rfl⟩:=FJ hc2;obtain⟨hf1,hf2,hf3⟩:=hfs i0 I;obtain⟨bs,rfl⟩:=iu (hi.get (UJ (slv 173 2 A (J l) c (l.flatMap cD)))) O;refine Wq461 ?_;refine Vs (λq:(Nat×Nat)×List Ky×ρ=>[(0,.slice (sA bs) (J l) c),(1,.func (.func f) #[] caps.toArray),(5,.i (q.1.1:Int)),(6,.i (q.1.2:Int))]) (λq=>[slv 173 2 (sA bs) (J l) c (q.2.1.flatMap cD),Y q.2.2]) (λq=>(q.2.2=(l.take q.1.2).foldl step r0/\ok q.2.2)/\q.1.1<q.1.2/\q.1.2<=J l/\J q.2.1=J l/\q.2.1.drop q.1.2=l.drop q.1.2/\q.2.1.take q.1.1++(l.drop q.1.2).filter (λx=> !D x)=l.filter (λx=> !D x)) (λq=>J l - q.1.2) (⟨(i0,i0+1),l,r1⟩) ⟨⟨hr1,hok1⟩,Nat.lt_succ_self _,by grind,rfl,rfl,hf2⟩ ?_;rintro⟨⟨i,j⟩,V,r⟩ ⟨⟨hr,hrk⟩,hij,hj,hV,hVd,hT⟩;dsimp only at hr hrk hij hj hV hVd hT|-;refine Wc ?_ ?_<;>intro hc5
 .simp only[ai]at hc5;have hjl:j<J l:=O;obtain⟨x,hx⟩:∃x,l[j]? =some x:=⟨_,ak hjl⟩;have hVx:V[j]? =some x:=(by have:=congrArg (λz=>z[0]?) hVd;grind);rw[qI hx]at hT;rw[qI hx,qI hVx,List.cons.injEq]at hVd;rw[List.filter_cons]at hT;refine Va ?_;refine Zy (cn (bb:=bs) (o:=0) (n:=J l) (c:=c) (j:=j) (sz:=2) (r:=j*2) I ir (Zv I) (Zv I) ir UL O) ?_;refine dZ (bX (vs:=cD x) ir ir py) (nz Zh (λi v XE=>fw (f:=cD) ir hVx XE)) I ?_;refine ZN λb7=>?_
  refine eA (cL ir I I (vq x) Za mS) ?_;refine UR ?_;refine UU ?_;refine Rj ?_;rintro _ _ ⟨_,⟨rfl,rfl,hrk2⟩,rfl⟩;obtain⟨r2,hr2⟩:=Do (step r x);rw[hr2]at hrk2|-;have hr3:r2=(l.take (j+1)).foldl step r0:=(by rw[<-hr2,hr,qd hx]);refine VP ?_ ?_<;>intro hc8
  .have hD:D x=false:=bZ;rw[hD]at hT;simp only[Bool.not_false,if_true]at hT;refine UQ ?_;refine Zy (cn (bb:=bs) (o:=0) (n:=J l) (c:=c) (j:=i) (sz:=2) (r:=i*2) I ir (Zv I) (Zv I) ir UL O) ?_;refine eA (uH (sz:=2) (n:=J l) (vs:=cD x) ir I I (vq x) Za I O) ?_;refine UR ?_;rw[zG (f:=cD) (sz:=2) ir (show i<J V by omega)];refine UK ?_;refine mT ?_;refine UU ?_;refine W8 ?_;refine Vd ((⟨(i+1,j+1),V.set i x,r2⟩:(Nat×Nat)×List Ky×ρ)) ⟨⟨⟨hr3,hrk2⟩,by grind,by grind,by grind,by dsimp only;rw[List.drop_set_of_lt O,hVd.2],by dsimp only;rw[List.take_succ_eq_append_getElem bZ,List.take_set_of_le (aK _),List.getElem_set_self,aw];exact hT⟩,by grind⟩
  have hD:D x=true:=bZ;rw[hD]at hT;simp only[Bool.not_true,Bool.false_eq_true,if_false]at hT;refine j5 ?_;refine Vd ((⟨(i,j+1),V,r2⟩:(Nat×Nat)×List Ky×ρ)) bZ
 simp only[aa]at hc5;obtain rfl:j=J l:=O;rw[List.drop_length]at hT;rw[List.filter_nil,aD]at hT;rw[List.take_length]at hr;have hil:J (l.filter λx=> !D x)=i:=bZ;refine U8 ?_;refine Zy (lb (bb:=bs) (o:=0) (n:=J l) (c:=c) (lo:=i) (hi:=J l) (r:=0+i*2) (sz:=2) I ir (Zv I) (.inr ⟨_,_,I,(Zv I)⟩) (.inl ⟨I,I⟩) O O O O) ?_;refine pt (c:=slv 173 2 (sA bs) (J l) c (V.flatMap cD)) (c':=slv 173 2 (sA bs) i c ((V.flatMap cD).take (i*2))) Za I (E6 O) ?_
 refine eA (AM I Za I ir (sz:=2) I I ne (by intro u hu;simp only[aI,aY,or_false]at hu;rcases hu with rfl|rfl<;>rfl) O O) ?_;refine UR ?_;refine UU ?_;refine Zy (fc i I ir (Zv I) (Zv I) qR UL) ?_;refine UK ?_;refine VA ([_,_]) ?_;rw[hil,qz (f:=cD) (sz:=2) ir,hT,<-hr];exact fx
end
variable{a:Int}
theorem RV(h:0<=a/\a<=4294967295):(Lit.int .u32 a).wf=true:=by
 have h1:IntKind.u32.min=0:=by decide
 have h2:IntKind.u32.max=4294967295:=by decide
 simp[Lit.wf,h1,h2];omega
variable{P:Program}{d:Nat}
theorem vt{t:TypeId}(ht:P.underlying t=some (.int .u32))(ha:(Lit.int .u32 a).wf=true):P.keyLits (d+1) t [.w a]=some [.w a]:=by
 simp[Program.keyLits,ht,ha]
theorem D8{k:TypeId}{f1 f2:Field}{b:Int}(hk:P.underlying k=some (.struct #[f1,f2]))(hc:P.cellsOf k=2)(hn:(#[f1,f2]:Array Field).all (·.name != "_")=true)
  (h1:P.underlying f1.type=some (.int .u32)) (h2:P.underlying f2.type=some (.int .u32)) (o1:f1.offset=0) (o2:f2.offset=1) (c1:P.cellsOf f1.type=1) (c2:P.cellsOf f2.type=1) (ha:(Lit.int .u32 a).wf=true) (hb:(Lit.int .u32 b).wf=true):
  P.keyLits (d+2) k [.w a,.w b]=some [.w a,.w b]:=by
 unfold Program.keyLits;rw[hk];have e1:J [Value.w a,.w b]=P.cellsOf k/\(#[f1,f2]:Array Field).all (·.name != "_")=true:=⟨by rw[hc];rfl,hn⟩;show(if _ then _ else none)=_;rw[if_pos e1];show((([f1,f2]:List Field).mapM λf=>P.keyLits (d+1) f.type (([Value.w a,.w b].drop f.offset).take (P.cellsOf f.type))).map List.flatten)=_;simp only[List.mapM_cons,List.mapM_nil,o1,o2,c1,c2,List.drop_zero,List.drop_succ_cons,List.take_succ_cons,List.take_zero,vt h1 ha,vt h2 hb,Option.bind_eq_bind,Option.bind_some,Option.pure_def,Option.map_some]
 rfl
theorem LF{n:Nat}{k:TypeId}{f1 f2:Field}{q:Ky}(hs:P.types.size=n+1)(hk:P.underlying k=some (.struct #[f1,f2]))(hkt:P.keyType k=true)(hf:(VI q).formed P k=true)(hc:P.cellsOf k=2)(hn:(#[f1,f2]:Array Field).all (·.name != "_")=true)
  (h1:P.underlying f1.type=some (.int .u32)) (h2:P.underlying f2.type=some (.int .u32)) (o1:f1.offset=0) (o2:f2.offset=1) (c1:P.cellsOf f1.type=1) (c2:P.cellsOf f2.type=1) (hq:lD q):∃l,keyOf P k (VI q)=some l:=by
 refine⟨.string (keyBytes [.w q.1,.w q.2]),?_⟩;unfold keyOf;rw[hk];show(if _ then _ else none)=_;rw[if_pos (by rw[hkt,hf];rfl),hs];show(P.keyLits (n+2) k [.w q.1,.w q.2]).map _=_;rw[D8 hk hc hn h1 h2 o1 o2 c1 c2 (RV hq.1) (RV hq.2)]
 rfl
section
variable{P:Program}{k:Nat}{T:TypeId}
theorem SP.struct{xs ys:Array Value}{r:Bool}(h:P.underlying T=some (.struct (P.fieldsOf T)))(hp:P.stoodInHeld T=false)(hf:RM P k xs ys (P.fieldsOf T).toList r):SP P (k+1) T (.agg xs) (.agg ys) r:=λw=>by
 rw[run_equalIn_struct w k T xs ys h hp];exact hf w
end
section
variable{C:Cx}{fr:Fr}{d:Option Nat}{T T':TypeId}{x y:Operand}{ty:TypeId}{pos:String}{af:Array Edge}{gd:Option (Nat×Bool)}{g r:Bool}
theorem Ju{xs ys:Array Value}(hm:C.P.eqGuardType C.P.depth T=false)(he:SP C.P 10000 T (.agg xs) (.agg ys) r)(hx:Ev fr g x (.agg xs))(hy:Ev fr g y (.agg ys)):Ve C ⟨d,.binOp .eql T x y T',ty,pos,af,gd⟩ fr g Vr (.bool r):=λA w hf _ hg=>by
 exact Wx61_
end
theorem D7(p q:Ky):SP prog 10000 173 (.agg #[.w p.1,.w p.2]) (.agg #[.w q.1,.w q.2]) (p==q):=by
 have h:SP prog 10000 173 (.agg #[.w p.1,.w p.2]) (.agg #[.w q.1,.w q.2]) ((p.1==q.1)&&((p.2==q.2)&&true)):=
  .struct rfl pO (RM.cons ne ir ir (.int rfl) (RM.cons ne ir ir (.int rfl) RM.nil))
 rw[Bool.and_true]at h;exact h
theorem PO:∃f1 f2:Field,prog.underlying 173=some (.struct #[f1,f2])/\(#[f1,f2]:Array Field).all (·.name != "_")=true/\prog.underlying f1.type=some (.int .u32)/\prog.underlying f2.type=some (.int .u32)/\f1.offset=0/\f2.offset=1/\prog.cellsOf f1.type=1/\prog.cellsOf f2.type=1:=
 ⟨_,_,rfl,by kernel_rfl,rfl,rfl,rfl,rfl,by kernel_rfl,by kernel_rfl⟩
theorem keyWide:(match prog.underlying 173 with|some (.array _ _)|some (.struct _)=>true|_=>false)=true:=by kernel_rfl
theorem D6:sj prog 173:=by
 refine⟨Maps.Keyed.of_law (deep_law_laid D5 (m:=2) O Sn pO keyWide),λq hq=>?_⟩;obtain⟨f1,f2,hu,h1,h2,h3,h4,h5,h6,h7⟩:=PO;obtain⟨n,hn⟩:∃n,prog.types.size=n+1:=⟨prog.types.size - 1,by have:(173:Nat)<prog.types.size:=Sn;omega⟩;exact LF hn hu keyKind (by simp[VI,Value.formed,hu,FG]) FG h1 h2 h3 h4 h5 h6 h7 hq
def Wf(LK:List (Ky×LS)):List (Ky×Value):=LK.map λx=>(x.1,x.2.v)
def Xs(k:Ky)(F:List Bool)(L0:List (Ky×LS)):List (Bool×Ky×Value):=List.zipWith (λf x=>(f,x.1,(DK k f x).2.v)) F L0
theorem OV{β:Type}(f:α->β)(L:List (Ky×α))(k:Ky):qk (L.map λx=>(x.1,f x.2)) k=(qk L k).map λx=>(x.1,f x.2):=by
 unfold qk;rw[kB (key:=λx:Ky×α=>x.1) (λx:Ky×α=>(x.1,f x.2)) ir]
 grind [cN,ChangeMaps.map_eraseIdx]
theorem BR(k:Ky):∀L0:List (Ky×LS),Xs k (R9 (J L0) false) L0=(Wf L0).map λx=>(false,x)
 |[]=>rfl
 |x::L0=>by
  show(false,x.1,(DK k false x).2.v)::Xs k (R9 (J L0) false) L0=_;rw[BR k L0]
  rfl
variable{k:Ky}
theorem itL_at{F:List Bool}{L0:List (Ky×LS)}{q:Ky}{v:Value}(h:(Xs k F L0)[j]? =some (false,q,v)):∃x,L0[j]? =some x/\F[j]? =some false/\q=x.1/\v=x.2.v:=by
 unfold Xs at h;rw[List.getElem?_zipWith]at h;cases hf:F[j]? with
 |none=>grind
 |some f=>
  cases hx:L0[j]? with
  |none=>grind
  |some x=>
   rw[hf,hx]at h;simp only[bh,aB]at h;obtain⟨rfl,rfl,rfl⟩:=h;exact⟨x,I,I,I,I⟩
theorem CS{α β γ:Type}(g:α->β->γ):∀(F:List α) (L:List β) (j:Nat) (a:α) (b:β),L[j]? =some b->List.zipWith g (F.set j a) L=(List.zipWith g F L).set j (g a b)
 |[],L,j,a,b,_=>by simp
 |f::F,[],j,a,b,h=>by simp at h
 |f::F,x::L,0,a,b,h=>by
  simp_all
 |f::F,x::L,j+1,a,b,h=>by
  show g f x::List.zipWith g (F.set j a) L=g f x::(List.zipWith g F L).set j (g a b);rw[CS g F L j a b bZ]
theorem LQ{k:Ky}:∀{F:List Bool} {L0:List (Ky×LS)},J F=J L0->(∀x,x∈Xs k F L0->x.1=true)->Xv k F L0=L0.map λx=>(x.1,mi k x.2)
 |[],[],_,_=>rfl
 |[],_::_,h,_=>by simp at h
 |_::_,[],h,_=>by simp at h
 |f::F,x::L0,h,ha=>by
  have hf:f=true:=ha (f,x.1,(DK k f x).2.v) (bn ..);subst hf;show DK k true x::Xv k F L0=_;rw[LQ bZ (λy hy=>ha y (aW _ hy))]
  rfl
theorem itL_snd(k:Ky):∀(F:List Bool) (L0:List (Ky×LS)),(Xs k F L0).map (·.2)=Wf (Xv k F L0)
 :=by grind [Xs,Xv,Wf,DK]
theorem xW:∀{F:List Bool} {j:Nat},F[j]? =some false->Cf (F.set j true)<Cf F
 |[],j,h=>by simp at h
 |f::F,0,h=>by
  grind [Cf]
 |f::F,j+1,h=>by
  have:=xW (F:=F) (j:=j) bZ
  grind [Cf]
theorem tS(h:j<J l):(l.set j x).Perm (x::l.eraseIdx j):=by
 grind [oD,List.getElem?_set_self,List.eraseIdx_set_eq]
theorem rL{key:α->Ky}(h:cN key k l=some j):∃x,l[j]? =some x/\key x=k/\l.find? (λx=>key x==k)=some x:=by
 grind [fJ,cN,List.getElem?_eq_getElem,List.findIdx?_eq_some_iff_getElem,List.find?_eq_some_iff_getElem]
theorem vN{key:α->Ky}(h:cN key k l=none):l.find? (λx=>key x==k)=none:=by
 grind [iF]
section
variable{C:Cx}{Q:lK}{fr:Fr}{cs:List bJ}{c:bJ}{cin cin' rest r1:List bJ}{e:Exit}{b r:Nat}{IL:List (Bool×Ky×Value)}{cur:Option (Ky×Value)}
theorem Bp(hd:WB cs (dm cin) rest)(hp:cin.Perm (c::cin'))(h:VC C Q e fr (c::dm cin'::rest)):VC C Q e fr cs:=λa w hf hi=>h a w hf ((hi.perm hd.perm).T6 hp)
theorem kM(hd:WB cs (dm cin) r1)(hd2:WB r1 c rest)(hp:cin'.Perm (c::cin))(h:VC C Q e fr (dm cin'::rest)):VC C Q e fr cs:=λa w hf hi=>h a w hf (((hi.perm (hd.perm.trans (hd2.perm.cons _))).perm (List.Perm.swap ..)).Uy hp)
theorem mL(hd:WB cs (dm cin) rest)(hs:cin'.Sublist cin)(h:VC C Q e fr (dm cin'::rest)):VC C Q e fr cs:=λa w hf hi=>h a w hf ((hi.perm hd.perm).Ux hs)
theorem Bq(hd:WB cs (Xg b r IL cur) rest)(h:VC C Q e fr (V0 b (IL.map (·.2))::rest)):VC C Q e fr cs:=λa w hf hi=>h a w hf ((hi.perm hd.perm).itEnd)
end
section
attribute [local irreducible] Ve bN
abbrev VZ(x:BA):bJ:=sl .u8 5 x.A (J (cH x.b.code)) x.c (cH x.b.code)
def V8(LK:List (Ky×LS)):List bJ:=LK.map λx=>Ye x.2
abbrev blC(X:Wn):bJ:=slv 262 4 X.Ac (J X.Z) X.cc (X.Z.flatMap BA.cells)
abbrev VQ(bc:Nat)(room:Int)(X:Wn):List bJ:=[Xa bc (.i room) (.slice X.Ac (J X.Z) X.cc) (.map (some X.ml)) (.i X.fl),blC X,dm (X.Z.map VZ),V0 X.ml (Wf X.LK),dm (V8 X.LK)]
theorem KW(x:BA)(k:Ky)(bk:Nat):CI prog 246 ([]++[.agg x.cells.toArray]++[.p bk]) [XI bk k] (λv cs=>v= .bool (x.key==k)/\cs=[XI bk k]/\True):=λw hi=>by
 refine Vb func246 ntmps246 hi ?_;refine An ?_;refine ZO λb2=>?_;refine UU ?_;refine dZ (bX (vs:=cD x.b.key) ir ir py) (cq Zh I) I (ZlR ?_);refine Zy (Ju vr (D7 x.b.key k) (Zv I) (Zv I)) ?_;exact Wx90_
theorem vW(bc:Nat)(r0 r2 r3:Value)(Ac:Oa)(cc:Nat)(Z:List BA)(hZ:J Z<=1000000)(k:Ky):CV prog 194 [.p bc,.agg (cD k).toArray] [Xa bc r0 (.slice Ac (J Z) cc) r2 r3,slv 262 4 Ac (J Z) cc (Z.flatMap BA.cells)] (.i (L1 (cN BA.key k Z))):=λw hi=>by
 refine Vb func194 ntmps194 hi ?_;refine An ?_;refine ZO λb3=>?_;refine U8 ?_;refine Zy (mz I) ?_;refine dH ([slv 262 4 Ac (J Z) cc (Z.flatMap BA.cells),XI b3 k]) (λw hi hin=>L4 (λ_:Unit=>XI b3 k) (λ_=>True) (λ_ _=>()) (λx=>x.key==k) 246 [.p b3] (λ_ _=>I) Z hZ (λ_ x w _ _ hin=>KW x k b3 w hin) Ac cc () trivial w hin) ?_;rintro _ _ ⟨_,rfl, -, -,rfl⟩;refine UK ?_;refine bK [Xa bc r0 (.slice Ac (J Z) cc) r2 r3,slv 262 4 Ac (J Z) cc (Z.flatMap BA.cells)] Zj (VA ([_,_]) ?_);exact fx
def FindK(o:Option BA)(F:List bJ)(v:Value)(cs:List bJ):Prop:=match o with
 |none=>v= .tuple #[.agg #[.w 0,.w 0,.slice none 0 0,.i 0],.bool false]/\cs=F
 |some x=>∃A' c',v= .tuple #[.agg (BA.cells ⟨x.b,A',c'⟩).toArray,.bool true]/\cs=VZ ⟨x.b,A',c'⟩::F
theorem Gq(bc:Nat)(room:Int)(X:Wn)(hS:BaSm X.Z)(k:Ky):CI prog 177 [.p bc,.agg (cD k).toArray] (VQ bc room X) (λv cs=>FindK (X.Z.find? λx=>x.key==k) (VQ bc room X) v cs):=λw hi=>by
 have hZ:=hS.1;have HP:=vW bc (.i room) (.map (some X.ml)) (.i X.fl) X.Ac X.cc X.Z hZ k;obtain⟨o,ho⟩:=Do (cN BA.key k X.Z);rw[ho]at HP;refine Vb func177 ntmps177 hi ?_;refine An ?_;refine ZO λb3=>?_;refine ZN λb4=>?_
 refine US ?_;refine Vq ([Xa bc (.i room) (.slice X.Ac (J X.Z) X.cc) (.map (some X.ml)) (.i X.fl),blC X]) (λw hi hin=>HP w hin) ?_;refine oU ?_ ?_<;>intro hc2
 .obtain rfl:o=none:=(by cases o with|none=>rfl|some j=>(have h9:((j:Nat):Int)<0:=of_decide_eq_true hc2;omega));rw[vN ho];refine An ?_;refine Zy (ip (vs:=[Value.w 0,.w 0,.slice none 0 0,.i 0]) Zk (.inl ⟨_,I,I⟩)) ?_;refine rY ?_;exact bK (row b4 _ _::VQ bc room X) Zj (sW (cs':=VQ bc room X) (.inl I) (List.Sublist.cons _ (aL _)) I I I Zh ir ir fx)
 obtain⟨j,rfl⟩:∃j,o=some j:=(by cases o with|none=>simp[L1]at hc2|some j=>grind);obtain⟨x,hx,hxk,hxf⟩:=rL ho;rw[hxf];have hjl:=(aC.1 hx).1;obtain⟨bs,hbs⟩:=iu (hi.get (.tail _ (.head (blC X) _))) (show 0<J X.Z by omega);have hxr:∀w0 S cs w,Ink.Inv w0 S cs w->Vk cs (dm (X.Z.map VZ))->Rd w .u8 x.A (J (cH x.b.code)) x.c (cH x.b.code):=(λw0 S cs w h hh=>cY (h.joinGet hh (List.mem_map.2 ⟨x,aG hx,I⟩)));have hxl:J (cH x.b.code)<=140737488355328:=(by rw[jx];have:=(hS.2 x (aG hx)).1;omega);refine U8 ?_;refine Zy (cn (bb:=bs) (o:=0) (n:=J X.Z) (c:=X.cc) (j:=j) (sz:=4) (r:=j*4) I ir (hbs▸sL I) (Zv I) ir UL O) ?_;refine dZ (bX (vs:=BA.cells x) ir ir (Zv I)) (nz (n:=J X.Z) (c:=X.cc) (sz:=4) (e:=262) (xs:=X.Z.flatMap BA.cells) (by have h9:X.Ac=sA bs:=hbs;rw[<-h9];exact(UJ (blC X))) (λi v XE=>fw (f:=BA.cells) ir hx XE)) I ?_;refine ZN λb7=>?_
 refine eA (cL ir I I (mW x) Za mS) ?_;refine UR ?_;refine UU ?_;refine Vl (λw hi=>nV x.A (J (cH x.b.code)) x.c (cH x.b.code) w (hxr _ _ _ _ hi Zh) hxl) ?_;rintro _ _ ⟨A9,c9,rfl,rfl⟩;refine lx ?_;refine UQ ?_;refine ij ?_;exact bK (row b4 _ _::VZ ⟨x.b,A9,c9⟩::VQ bc room X) Zj (sW (cs':=VZ ⟨x.b,A9,c9⟩::VQ bc room X) (.inl I) (List.Sublist.cons _ (aL _)) I I I Zh ir ir ⟨A9,c9,I,I⟩)
theorem GX(x k:Ky)(bk:Nat):CI prog 220 ([]++[.agg (cD x).toArray]++[.p bk]) [XI bk k] (λv cs=>v= .bool (x==k)/\cs=[XI bk k]/\True):=λw hi=>by
 refine Vb func220 ntmps220 hi ?_;refine An ?_;refine ZO λb2=>?_;refine US ?_;refine Zy (Ju vr (D7 x k) (Zv I) (Zv I)) ?_;exact Wx90_
theorem AE(bc ml:Nat)(r0 r1 r3:Value)(LK:List (Ky×LS))(hsm:LkSm LK)(k:Ky)(hk:lD k):CI prog 174 [.p bc,.agg (cD k).toArray] [Xa bc r0 r1 (.map (some ml)) r3,V0 ml (Wf LK),dm (V8 LK)] (λ_ cs=>cs=[Xa bc r0 r1 (.map (some ml)) r3,V0 ml (Wf (gJ LK k)),dm (V8 (gJ LK k))]):=λw hi=>by
 obtain⟨L0,hL0⟩:=Do (qk LK k);have hU:gJ LK k=L0.map λx=>(x.1,mi k x.2):=by unfold gJ;rw[hL0]
 have hd:qk (Wf LK) k=Wf L0:=by rw[<-hL0];exact OV LS.v LK k
 have hsub:(V8 L0).Sublist (V8 LK):=by rw[<-hL0];exact(tP LK k).map _
 have hs0:LkSm L0:=λx hx=>hsm x (by rw[<-hL0]at hx;exact(tP LK k).subset hx)
 refine Vb func174 ntmps174 hi ?_;refine An ?_;refine ZO λb3=>?_;refine UN ?_;refine bQ (Vg [5]) Zk (lO ?_);refine UE 2 2 ?_;refine ZG 3 ?_;refine ZI 4 ?_;refine cP 5 Zk (fq I I (t_mdel I I hk I D6 Za) ZJ ?_);refine UR ?_;rw[hd];refine fh ?_;refine UN ?_;refine xd (cin':=V8 (Xv k (R9 (J L0) false) L0)) Zd (by rw[Bv];exact hsub) (UK ?_);refine gS (EX I I Za) I ?_;rintro _ _ ⟨b15,rfl,rfl⟩;rw[<-BR k L0];refine UN ?_;refine Vs (λF:List Bool=>[(0,.p bc),(3,.p b3),(15,.p b15)]) (λF=>[dm (V8 (Xv k F L0)),Xa bc r0 r1 (.map (some ml)) r3,Xg ml b15 (Xs k F L0) none,XI b3 k]) (λF=>J F=J L0) (λF=>Cf F) (R9 (J L0) false) bZ ?_;rintro F hF;refine An ?_;refine gS (J5 I Za) I ?_;rintro _ _ ⟨o16,ho16,rfl,rfl⟩;refine Zy (Jr py) ?_;refine VP ?_ ?_<;>intro hc3
 .obtain⟨⟨j,q,v⟩,rfl⟩:=Option.isSome_iff_exists.1 hc3;have hj0:(Xs k F L0)[j]? =some (false,q,v):=ho16;have hjl:=(aC.1 hj0).1;obtain⟨x,hx,hFj,rfl,rfl⟩:=itL_at hj0;have hjx:(V8 (Xv k F L0))[j]? =some (Ye x.2):=(by unfold V8 Xv;rw[List.getElem?_map,List.getElem?_zipWith,hFj,hx];rfl);have hjp:=(aC.1 hjx).1;have hji:(DT (Xs k F L0) (some (j,x.1,x.2.v)))[j]? =some (true,x.1,x.2.v):=(List.getElem?_set_self hjl);have hIT:((Xs k F L0).set j (true,x.1,x.2.v)).set j (true,x.1,(mi k x.2).v)=Xs k (F.set j true) L0:=(by rw[List.set_set];exact(CS _ F L0 j true x hx).symm);have hPR:(V8 (Xv k (F.set j true) L0)).Perm (Ye (mi k x.2)::(V8 (Xv k F L0)).eraseIdx j):=(by have e:V8 (Xv k (F.set j true) L0)=(V8 (Xv k F L0)).set j (Ye (mi k x.2)):=(by unfold V8 Xv;rw[CS _ F L0 j true x hx,List.map_set];rfl);rw[e];exact tS hjp);refine UQ ?_;refine CZ (c:=Ye x.2) (cin':=(V8 (Xv k F L0)).eraseIdx j) Zd (oD hjx) (dZ (Jv (Zv I)) (λw hi=>(show Aj ml b15 (DT (Xs k F L0) (some (j,x.1,x.2.v))) (some (x.1,x.2.v)) w from hi.get (UJ (Xg ml b15 (DT (Xs k F L0) (some (j,x.1,x.2.v))) (K7 (some (j,x.1,x.2.v))))))) I (An ?_));refine ZN λb4=>?_
  refine eA (cL (vs:=cD x.1) ir I I (vq x.1) Za mS) ?_;refine UR ?_;refine UN ?_;refine bQ (WM [7,8] (m5 bc [r0,r1,.map (some ml),r3]++m5 b4 (cD x.1))) Zk (lO ?_);refine UE 2 2 ?_;refine eY 3 I Zk Zk Zk (bO ir (Zv I)) RK (gO (bP (t:=249) Zh) (bP (t:=173) Zh)) I (xg 4 I Zk Zk Zk (bX ir ir py) (λx hx=>List.mem_append_right _ (gl x hx)) (gO (bP (t:=249) Zh) (bP (t:=173) Zh)) I (ZE 5 ?_));refine UY 6 I (mz I) ?_;refine iK ?_;refine jm I I (dh ([Ye x.2,XI b3 k]) I (λ_ _=>I) Zi (λw hi hin=>delK_ok (λ_:Unit=>XI b3 k) (λ_=>True) (λ_ _=>()) (λq=>q==k) 220 [.p b3] (λ_ _=>I) x.2.ks (hs0 x (aG hx)).2 (λ_ y w _ _ hin=>GX y k b3 w hin) x.2.A x.2.c () trivial w hin)) (λ_=>by refine Vz ?_;exact gO (bP (t:=249) Zh) (bP (t:=173) Zh)) I ?_;refine Vz ?_;refine gg ?_;refine fq I I (t_itput hji I I I I D6 Za) (λ_=>by refine UR ?_;exact gO (bP (t:=249) Zh) (bP (t:=173) Zh)) ?_;refine UR ?_;refine fh ?_;refine Zo (kM (cin':=V8 (Xv k (F.set j true) L0)) (c:=Ye (mi k x.2)) Zd Zd hPR ?_);refine iA (c:=Xg ml b15 (((Xs k F L0).set j (true,x.1,x.2.v)).set j (true,x.1,(mi k x.2).v)) none) (c':=Xg ml b15 (Xs k (F.set j true) L0) none) Za I (λw h=>by grind) ?_
  refine Vd ((F.set j true)) ⟨by grind,xW hFj⟩
 obtain rfl:o16=none:=kY;have ho0:∀x,x∈Xs k F L0->x.1=true:=ho16;refine UK ?_;refine Bq (IL:=Xs k F L0) (cur:=none) (b:=ml) (r:=b15) Zd ?_;rw[itL_snd k F L0,LQ hF ho0];refine bK [Xa bc r0 r1 (.map (some ml)) r3,V0 ml (Wf (L0.map λx=>(x.1,mi k x.2))),dm (V8 (L0.map λx=>(x.1,mi k x.2)))] Zj (io (cs':=[Xa bc r0 r1 (.map (some ml)) r3,V0 ml (Wf (L0.map λx=>(x.1,mi k x.2))),dm (V8 (L0.map λx=>(x.1,mi k x.2)))]) (.inr I) Zu I ?_);rw[hU]
variable{keys:List Ky}{LK:List (Ky×LS)}
theorem GW{x:Ky×LS}(hx:x∈gJ LK k):∃y,y∈LK/\∀q,q∈x.2.ks->q∈y.2.ks:=by
 obtain⟨y,hy,rfl⟩:=List.mem_map.1 hx;exact⟨y,(tP LK k).subset hy,λq hq=>(List.mem_filter.1 hq).1⟩
variable{room:Int}{X:Wn}
theorem pU.push(h:pU room X)(hlt:(J X.Z:Int)<room){t:BA}(ht:J t.b.code<=100000/\lD t.b.key)(A:Oa)(c:Nat):pU room ⟨X.ml,A,c,X.fl,X.LK,X.Z++[t]⟩:=by
 refine⟨h.rm,ig,λy hy=>?_,h.lk.mono λq hq=>by grind⟩;rcases aJ.1 hy with hy|hy
 .exact h.ba y hy
 grind
def nT(D:BA->Bool)(r:Int×List (Ky×LS))(x:BA):Int×List (Ky×LS):=bif D x then(V9 .i64 (r.1+1),gJ r.2 x.key)else r
theorem vS(D:BA->Bool)(keys:List Ky):∀(l:List BA) (r:Int×List (Ky×LS)),0<=r.1->r.1+(J l:Int)<=1000000000->CL keys r.2->(l.foldl (nT D) r).1=r.1+J (l.filter D)/\CL keys (l.foldl (nT D) r).2/\(∀y,y∈(l.foldl (nT D) r).2->∃z,z∈r.2/\∀q,q∈y.2.ks->q∈z.2.ks)/\
  ∀y,y∈(l.foldl (nT D) r).2->∀q,q∈y.2.ks->∀x,x∈l->D x=true->q≠x.key
 |[],r,_,_,h=>⟨by simp,h,λy hy=>⟨y,hy,λq hq=>hq⟩,λ_ _ _ _ x hx=>by cases hx⟩
 |x::l,r,h0,hb,h=>by
  have hb2:r.1+(J l:Int)+1<=1000000000:=by simp only[aE]at hb;omega
  rw[List.foldl_cons,List.filter_cons];cases hD:D x with
  |false=>
   have e:nT D r x=r:=by unfold nT;rw[hD,ac]
   rw[e];obtain⟨h1,h2,h3,h4⟩:=vS D keys l r h0 O h
   grind
  |true=>
   have e:nT D r x=(r.1+1,gJ r.2 x.key):=by unfold nT;rw[hD,ah,show V9 .i64 (r.1+1)=r.1+1 by rw[bI];omega]
   rw[e];obtain⟨u1,u2⟩:=h.unlink x.key;obtain⟨h1,h2,h3,h4⟩:=vS D keys l (r.1+1,gJ r.2 x.key) O O u1
   grind [GW]
theorem put_at{key:α->Ky}{t:α}(h:cN key (key t) l=some j):uZ key room l t=l.set j t:=by unfold uZ;rw[h]
theorem O2{key:α->Ky}{t:α}(h:cN key (key t) l=none)(h2:room<=(J l:Int)):uZ key room l t=[t]:=by grind [uZ]
theorem O1{key:α->Ky}{t:α}(h:cN key (key t) l=none)(h2:¬room<=(J l:Int)):uZ key room l t=l++[t]:=by grind [uZ]
theorem place_b(k:Ky)(Z:List BA):cN WR.key k (Z.map BA.b)=cN BA.key k Z:=by grind [kB]
theorem cnew_ok(room:Int)(w:World):UW prog 91 [.i room] w [] (λv cs=>if 1<=room/\room<=1024 then∃bc ml,v= .tuple #[.p bc,.i 0]/\cs=VQ bc room ⟨ml,none,0,0,[],[]⟩else v= .tuple #[.pointer none,.i 1]/\cs=[]):=by
 refine UV func91 ntmps91 ?_;refine wD ?_;refine ZW ?_ ?_<;>intro hc1
 .have hnr:¬(1<=room/\room<=1024):=bZ;refine Va ?_;refine po ?_;rw[if_neg hnr];exact fx
 have hnr:1<=room/\room<=1024:=bZ;refine UK ?_;refine dB 262 4 (pW (pW (ZA ?_)));refine gS (Db I) I ?_;rintro _ _ ⟨b11,rfl,rfl⟩;refine ZA ?_;refine ZO λb13=>?_
 refine UQ ?_;refine bK (VQ b13 room ⟨b11,none,0,0,[],[]⟩) Zj (wB (cs':=VQ b13 room ⟨b11,none,0,0,[],[]⟩) (.inl I) (aL _) I I I ?_);rw[if_pos hnr];exact⟨b13,b11,I,I⟩
theorem MX(bc:Nat)(room:Int)(X:Wn):CI prog 129 [.p bc] (VQ bc room X) (λv cs=>v= .i (J X.Z:Int)/\cs=VQ bc room X):=λw hi=>by
 refine Vb func129 ntmps129 hi ?_;refine oO ?_;exact Fl (cs':=VQ bc room X) (.inl I) (aL _) I I fx
theorem Cv(bc:Nat)(room:Int)(X:Wn):CI prog 128 [.p bc] (VQ bc room X) (λv cs=>∃ml fl,v= .i (J X.Z:Int)/\cs=VQ bc room ⟨ml,none,0,fl,[],[]⟩):=λw hi=>by
 refine Vb func128 ntmps128 hi ?_;refine wD ?_;refine dB 262 4 (pW (pW (An ?_)));refine gS (Db I) I ?_;rintro _ _ ⟨b11,rfl,rfl⟩;refine jO ?_;refine jO ?_;refine Va ?_;refine kZ ?_;refine jO ?_;refine U8 ?_;exact bK (VQ bc room ⟨b11,none,0,V9 .i64 (X.fl+1),[],[]⟩) Zj (Fl (cs':=VQ bc room ⟨b11,none,0,V9 .i64 (X.fl+1),[],[]⟩) (.inl I) (aL _) I I pP)
abbrev caL(bc:Nat)(room:Int)(ml:Nat)(A:Oa)(cc:Nat)(fl:Int)(n:Nat)(xs:List Value)(cin:List bJ)(LK:List (Ky×LS)):List bJ:=[Xa bc (.i room) (.slice A n cc) (.map (some ml)) (.i fl),slv 262 4 A n cc xs,dm cin,V0 ml (Wf LK),dm (V8 LK)]
theorem cput_ok(bc:Nat)(room:Int)(X:Wn)(hX:pU room X)(t:BA)(ht:J t.b.code<=100000/\lD t.b.key)(hc1:1<=t.b.count)(hne:t.b.code≠[])(w:World)(hi:Inv w (bM (VQ bc room X)) (VQ bc room X) w)(hR:∀w',dc (bM (VQ bc room X)) w w'->Rd w' .u8 t.A (J (cH t.b.code)) t.c (cH t.b.code)):
  UW prog 188 [.p bc,.agg t.cells.toArray] w (VQ bc room X) (λ_ cs=>∃X':Wn,cs=VQ bc room X'/\pU room X'/\X'.Z.map BA.b=uZ WR.key room (X.Z.map BA.b) t.b):=by
 have hS:=hX.sm;have hZ:=hS.1;have hlen:=hX.len;obtain⟨hr1,hr2⟩:=hX.rm;have hb8:J (cH t.b.code)<=140737488355328:=by rw[jx];omega
 have hb0:J (cH t.b.code)≠0:=by rw[jx];intro e;exact hne (List.eq_nil_of_length_eq_zero O)
 have HP:=vW bc (.i room) (.map (some X.ml)) (.i X.fl) X.Ac X.cc X.Z hZ t.b.key;have HU:=AE bc X.ml (.i room) (.slice X.Ac (J X.Z) X.cc) (.i X.fl) X.LK (hX.lk.sm bZ) t.b.key ht.2;have HF:=Cv bc room X;obtain⟨o,ho⟩:=Do (cN BA.key t.b.key X.Z);rw[ho]at HP;have hob:cN WR.key t.b.key (X.Z.map BA.b)=o:=by rw[place_b,ho]
 obtain⟨ml,Ac,cc,fl,LK,Z⟩:=X;dsimp only at hS hZ hlen HP HU HF ho hob;refine Vb func188 ntmps188 hi ?_;refine An ?_;refine ZO λb3=>?_;refine wD ?_;refine cK I (bZ) (UU ?_);refine Vl (λw hi=>nV t.A (J (cH t.b.code)) t.c (cH t.b.code) w (hR w hi.To) hb8) ?_;rintro _ _ ⟨A9,c9,rfl,rfl⟩;refine lx ?_;refine US ?_;refine dZ (bX (vs:=cD t.b.key) ir ir py) (cq Zh I) I (Vq ([Xa bc (.i room) (.slice Ac (J Z) cc) (.map (some ml)) (.i fl),slv 262 4 Ac (J Z) cc (Z.flatMap BA.cells)]) (λw hi hin=>HP w hin) ?_);refine Wc ?_ ?_<;>intro hc5
 .obtain⟨j,rfl⟩:∃j,o=some j:=(by cases o with|none=>cases hc5|some j=>grind);obtain⟨x,hx,hxk, -⟩:=rL ho;have hjl:=(aC.1 hx).1;obtain⟨bs,rfl⟩:=iu (hi.get (.tail _ (.head (slv 262 4 Ac (J Z) cc (Z.flatMap BA.cells)) _))) (show 0<J Z by omega);refine UK ?_;refine dZ (bX (vs:=cD t.b.key) ir ir py) (cq Zh I) I (Ws ([Xa bc (.i room) (.slice (sA bs) (J Z) cc) (.map (some ml)) (.i fl),V0 ml (Wf LK),dm (V8 LK)]) (λw hi hin=>HU w hin) ?_);rintro _ _ ⟨_,rfl,rfl⟩;refine UN ?_;refine bQ (Vg [7]) Zk (wx ?_);refine ZG 3 ?_;refine ZE 4 ?_;refine ZI 5 ?_;refine UY 6 I (cn (bb:=bs) (o:=0) (n:=J Z) (c:=cc) (j:=j) (sz:=4) (r:=j*4) I ir (Zv I) (Zv I) ir UL O) ?_;refine iK ?_;refine fq I I (uH (sz:=4) (n:=J Z) (c:=cc) (vs:=BA.cells ⟨t.b,A9,c9⟩) ir I I (mW _) Za I O) ZJ ?_;refine UR ?_;rw[zG (f:=BA.cells) (sz:=4) ir hjl];refine fh ?_;refine Va ?_;exact Bp (cin:=Z.map VZ) (c:=VZ x) (cin':=(Z.map VZ).eraseIdx j) Zd (oD bZ) (kM (cin:=(Z.map VZ).eraseIdx j) (c:=VZ ⟨t.b,A9,c9⟩) (cin':=(Z.set j ⟨t.b,A9,c9⟩).map VZ) Zd Zd (by rw[List.map_set];exact tS bZ) (bK (caL bc room ml (sA bs) cc fl (J Z) ((Z.set j ⟨t.b,A9,c9⟩).flatMap BA.cells) ((Z.set j ⟨t.b,A9,c9⟩).map VZ) (gJ LK t.b.key)) Zj (Fl (cs':=caL bc room ml (sA bs) cc fl (J Z) ((Z.set j ⟨t.b,A9,c9⟩).flatMap BA.cells) ((Z.set j ⟨t.b,A9,c9⟩).map VZ) (gJ LK t.b.key)) (.inl I) (aL _) I I ⟨⟨ml,some ⟨bs,0,none⟩,cc,fl,gJ LK t.b.key,Z.set j ⟨t.b,A9,c9⟩⟩,by grind,hX.set (t:=⟨t.b,A9,c9⟩) hx hxk ht _ _ _ _,by rw[put_at hob,List.map_set]⟩)))
 obtain rfl:o=none:=(by cases o with|none=>rfl|some j=>have h9:¬(0:Int)<=((j:Nat):Int):=of_decide_eq_false hc5;omega);refine An ?_;refine cj (λY:Wn=>[(0,.p bc),(3,.p b3)]) (λY=>VQ bc room Y++[row b3 (BA.cells ⟨t.b,A9,c9⟩) 262,VZ ⟨t.b,A9,c9⟩]) (λY=>pU room Y/\(J Y.Z:Int)<room/\Y.Z.map BA.b++[t.b]=uZ WR.key room (Z.map BA.b) t.b) ?_ ?_
 .refine Zs (bQ (Vg []) Zk ?_);refine wx ?_;refine wP ?_;refine ZE 6 ?_;refine UE 7 0 ?_;refine wT ?_;refine tC ?_;refine ZW ?_ ?_<;>intro hc9
  .have hfull:room<=(J (Z.map BA.b):Int):=bZ;refine An ?_;refine dH (VQ bc room ⟨ml,Ac,cc,fl,LK,Z⟩) (λw hi hin=>HF w hin) ?_;rintro _ _ ⟨ml2,fl2,rfl,rfl⟩;refine Zn (Vd ((⟨ml2,none,0,fl2,[],[]⟩:Wn)) ⟨pU.none ⟨hr1,hr2⟩ _ _ _ _,by grind,by rw[O2 hob hfull];rfl⟩)
  have hfull:¬room<=(J (Z.map BA.b):Int):=bZ;refine Zc (Vd ((⟨ml,Ac,cc,fl,LK,Z⟩:Wn)) ⟨hX,by grind,by rw[O1 hob hfull]⟩)
 rintro⟨ml2,Ac2,cc2,fl2,LK2,Z2⟩ ⟨hY,hlt,hput⟩;dsimp only at hlt hput|-;refine Zs (bQ (WM [7,10] (m5 b3 (BA.cells ⟨t.b,A9,c9⟩))) Zk ?_);refine zX ?_;refine xg 5 I Zk Zk Zk (bX ir ir py) (λx hx=>gl x hx) (bP (t:=262) Zh) I (cP 6 Zk (jm I I (nu I I ir ir I I I) (λ_=>by rintro _ _ ⟨b54,rfl,rfl⟩;exact bP (t:=262) Zh) I ?_));rintro _ _ ⟨b54,rfl,rfl⟩;refine iK ?_;refine jm I I (cC (n:=J Z2) (e:=262) (sz:=4) (bytes:=40) I I Za I I (λw hi=>hi.rd (UJ (slv 262 4 (sA b54) 1 1 (BA.cells ⟨t.b,A9,c9⟩)))) (mW ⟨t.b,A9,c9⟩) gD O) (λ_=>by rintro _ _ ⟨A2,c2,rfl,rfl⟩;exact bP (t:=262) Zh) I ?_;rintro _ _ ⟨A2,c2,rfl,rfl⟩;rw[show Z2.flatMap BA.cells++BA.cells ⟨t.b,A9,c9⟩=(Z2++[(⟨t.b,A9,c9⟩:BA)]).flatMap BA.cells by simp,show J Z2+1=J (Z2++[(⟨t.b,A9,c9⟩:BA)]) by simp];refine ZE 8 ?_;refine UE 9 1 ?_;refine cP 10 Zk (fq I I (mD ir I I I Za Zp) (λ_=>by refine UR ?_;exact bP (t:=262) Zh) ?_);refine UR ?_;refine fh ?_;refine US ?_;exact kM (cin:=Z2.map VZ) (c:=VZ ⟨t.b,A9,c9⟩) (cin':=(Z2++[(⟨t.b,A9,c9⟩:BA)]).map VZ) Zd Zd kY (bK (VQ bc room ⟨ml2,A2,c2,fl2,LK2,Z2++[(⟨t.b,A9,c9⟩:BA)]⟩) Zj (Fl (cs':=VQ bc room ⟨ml2,A2,c2,fl2,LK2,Z2++[(⟨t.b,A9,c9⟩:BA)]⟩) (.inl I) (aL _) I I ⟨⟨ml2,A2,c2,fl2,LK2,Z2++[(⟨t.b,A9,c9⟩:BA)]⟩,I,hY.push (t:=⟨t.b,A9,c9⟩) hlt ht _ _,by grind⟩))
end
end Go.Ink
namespace Go.Ink
open List renaming length→J
open IntKind renaming wrap→V9
open Go.RowKit Go.Proofs.Tryz
section
variable{cs cin:List bJ}
variable{w0 w:World}{S:List Nat}
theorem ot{bb t:Nat}{xs:List Value}(hc:Vk cs (dm cin))(hr:row bb xs t∈cin):∀w,Inv w0 S cs w->cells (m5 bb xs) w:=λw hi=>by
 have h:=oJ (hi.get hc) _ hr;have h1:Inv w [bb] [row bb xs t] w:=⟨dc.refl _ _,by simp[bM,row,bJ.bs],λc hc=>by grind,λb hb=>by grind [bM,bJ.bs]⟩;exact bP (.head _ _) w h1
end
section
attribute [local irreducible] Ve bN
theorem BY(A B:Oa)(c d:Nat)(xs ys:Li)(hx:Vh xs)(hy:Vh ys)(w:World)(h:Rd w .u8 A (J xs) c xs)(h2:Rd w .u8 B (J ys) d ys):
  CW prog 184 [.slice A (J xs) c,.slice B (J ys) d] w (.bool (ys.isPrefixOf xs)):=by
 have hcap:=h.cap;refine UV func184 ntmps184 ?_;by_cases hle:J ys<=J xs
 .have hg:decide ((J xs:Int)>=(J ys:Int))=true:=ap O
  have htl:J (xs.take (J ys))=J ys:=by rw[aO];omega
  have HE:=M9 A B c d (xs.take (J ys)) ys (λx hx'=>hx x (aM hx')) hy;rw[htl,zu xs ys hle]at HE;have hrt:=fI h (J ys);rw[htl]at hrt;refine oO ?_;refine V3 I I (fc (J ys) I ir (cO I) (cO I) qR UL) ?_;refine ZB ?_;refine dC (bS I I) (.cons (cO I) (.cons (cO I) .nil)) (λ_ _=>I) (λhg w hi=>HE w (hrt.Tb hi) (h2.Tb hi)) I (UQ ?_);refine Wl ?_;refine⟨?_,I⟩;rw[show decide ((J ys:Int)<=(J xs:Int))=true from ap O,bz]
 have hp:ys.isPrefixOf xs=false:=by
  cases hb:ys.isPrefixOf xs with
  |false=>rfl
  |true=>
   grind
 have hg0:decide ((J ys:Int)<=(J xs:Int))=false:=ao O
 refine mv ?_;refine Wq187 ?_;refine Wq187 ?_;refine Zy (Ay (q:=false) (Zv I) ⟨_,I,λ_ e=>by grind⟩) ?_;refine UK ?_;refine Wl ?_;refine⟨?_,I⟩;rw[hp,hg0,bo]
theorem Nb(A:Oa)(n c:Nat)(xs:Li)(w:World)(h:Rd w .u8 A n c xs)(hn:n<=140737488355328):UW prog 226 [.slice A n c] w [] (λv cs=>∃A' c',v= .slice A' n c'/\cs=[sl .u8 5 A' n c' xs]):=by
 refine UV func226 ntmps226 ?_;refine fR ?_;refine ZW ?_ ?_<;>intro hc1
 .obtain rfl:A=none:=by simpa using hc1
  obtain⟨rfl,rfl⟩:=h.nil I;obtain rfl:xs=[]:=by have:=h.len;simpa[ints]using this
  refine An ?_;refine dB 5 1 (UQ ?_);exact Nq
 refine UK ?_;refine jQ ?_;rintro _ _ ⟨b5,rfl,rfl⟩;exact Wq288
abbrev Gf(bc ml b2 b3 b5:Nat)(r0 r1 r3:Value)(Ap:Oa)(cp:Nat)(SV:Li)(r:Int×List (Ky×LS)):List bJ:=
 [row b2 [.p bc] 168,row b3 [.slice Ap (J SV) cp] 23,sl .i64 3 Ap (J SV) cp SV,row b5 [.i r.1] 3,Xa bc r0 r1 (.map (some ml)) r3,V0 ml (Wf r.2),dm (V8 r.2)]
abbrev ff(SV:Li)(x:BA):Bool:=SV.contains (x.b.key.2/64)
theorem Qp(bc ml b2 b3 b5:Nat)(r0 r1 r3:Value)(Ap:Oa)(cp:Nat)(SV:Li)(r:Int×List (Ky×LS))(x:BA)(hx:lD x.b.key)(hsm:LkSm r.2):CI prog 172 ([]++[.agg x.cells.toArray]++[.p b3,.p b2,.p b5]) (Gf bc ml b2 b3 b5 r0 r1 r3 Ap cp SV r) (λv cs=>v= .bool (ff SV x)/\cs=Gf bc ml b2 b3 b5 r0 r1 r3 Ap cp SV (nT (ff SV) r x)):=λw hi=>by
 obtain⟨k0,k1⟩:=hx.2;have hd:=u32_div hx.2;obtain⟨D,hD⟩:=Do (ff SV x);have hD2:SV.contains (x.b.key.2/64)=D:=hD;have HC:=vX Ap cp SV (x.b.key.2/64);rw[hD2]at HC;have ht:D=true->nT (ff SV) r x=(V9 .i64 (r.1+1),gJ r.2 x.key):=λe=>by unfold nT;grind
 have hf:D=false->nT (ff SV) r x=r:=λe=>by unfold nT;grind
 rw[hD];refine Vb func172 ntmps172 hi ?_;refine An ?_;refine ZO λb4=>?_;refine U8 ?_;refine Zy (kf (Zv I) (Zv I) O (show _=x.b.key.2/64 from by rw[bl k0,au];omega)) ?_;refine wo ?_;refine UZ (λw hi=>HC w (hi.rd (UJ (sl .i64 3 Ap (J SV) cp SV)))) ?_;refine Wc ?_ ?_<;>intro hc2
 .refine UK ?_;refine dZ (bX (vs:=cD x.b.key) ir ir py) (cq Zh I) I (Ws ([Xa bc r0 r1 (.map (some ml)) r3,V0 ml (Wf r.2),dm (V8 r.2)]) (λw hi hin=>AE bc ml r0 r1 r3 r.2 hsm x.b.key hx w hin) ?_);rintro _ _ ⟨_,rfl,rfl⟩;refine UK ?_;refine kZ ?_;refine nX ?_;refine bK (Gf bc ml b2 b3 b5 r0 r1 r3 Ap cp SV (V9 .i64 (r.1+1),gJ r.2 x.key)) Zj (Fl (cs':=Gf bc ml b2 b3 b5 r0 r1 r3 Ap cp SV (V9 .i64 (r.1+1),gJ r.2 x.key)) (.inl I) (aL _) I I ?_);rw[ht hc2];exact fx
 refine U8 ?_;refine bK (Gf bc ml b2 b3 b5 r0 r1 r3 Ap cp SV r) Zj (Fl (cs':=Gf bc ml b2 b3 b5 r0 r1 r3 Ap cp SV r) (.inl I) (aL _) I I ?_);rw[hf hc2];exact fx
theorem QG(bc:Nat)(room:Int)(X:Wn)(hX:pU room X)(Ap:Oa)(cp:Nat)(SV:Li):CI prog 123 [.p bc,.slice Ap (J SV) cp] (VQ bc room X++[sl .i64 3 Ap (J SV) cp SV]) (λv cs=>v= .i (J (X.Z.filter (ff SV)):Int)/\∃X':Wn,cs=VQ bc room X'++[sl .i64 3 Ap (J SV) cp SV]/\pU room X'/\X'.Z=X.Z.filter λx=> !ff SV x):=λw hi=>by
 have hS:=hX.sm;have hlen:=hX.len;obtain⟨hr1,hr2⟩:=hX.rm;have hba:=hX.ba;have hlk:=hX.lk;obtain⟨ml,Ac,cc,fl,LK,Z⟩:=X;dsimp only at hS hlen hba hlk;have hZ:=hS.1;have HD:=λb2 b3 b5 w hi=>delB_ok (λr:Int×List (Ky×LS)=>dm (Gf bc ml b2 b3 b5 (.i room) (.slice Ac (J Z) cc) (.i fl) Ap cp SV r)) (λr=>CL (Z.map BA.key) r.2) (nT (ff SV)) (ff SV) 172 [.p b3,.p b2,.p b5] (λ_ _=>I) Z hZ
  (λr x w hok hx hin=>UW.mono (UW.join hin λhin2=>Qp bc ml b2 b3 b5 (.i room) (.slice Ac (J Z) cc) (.i fl) Ap cp SV r x (hba x hx).2 (hok.sm bZ) w hin2)
   (λv cs ⟨cs0,⟨h1,h2⟩,h3⟩=>⟨h1,by rw[h3,h2],by
    show CL (Z.map BA.key) (nT (ff SV) r x).2;unfold nT;cases ff SV x with
    |true=>exact(hok.unlink x.key).1
    |false=>exact hok⟩)) Ac cc (0,LK) hlk w hi
 obtain⟨hf1,hf2, -,hf4⟩:=vS (ff SV) (Z.map BA.key) Z (0,LK) (Int.le_refl _) O hlk;obtain⟨⟨n9,LK9⟩,h9⟩:=Do (Z.foldl (nT (ff SV)) (0,LK));rw[h9]at HD hf1 hf2 hf4;dsimp only at hf1 hf2 hf4;have hsub:(Z.filter λx=> !ff SV x).Sublist Z:=List.filter_sublist;have hOk:∀A c,pU room ⟨ml,A,c,fl,LK9,Z.filter λx=> !ff SV x⟩:=λA c=>⟨⟨hr1,hr2⟩,bZ,(λy hy=>hba y (hsub.subset hy)),λy hy=>⟨(hf2 y hy).1,(hf2 y hy).2.1,λq hq=>by
  obtain⟨z,hz,hzq⟩:=List.mem_map.1 ((hf2 y hy).2.2 q hq)
  grind⟩⟩
 refine Vb func123 ntmps123 hi ?_;refine An ?_;refine ZO λb2=>?_;refine ZO λb3=>?_
 refine UQ ?_;refine ZN λb5=>?_;refine ZL ?_;refine UN ?_;refine bQ (WM [6,9] (m5 b2 [.p bc])) Zk (eY 0 I Zk Zk Zk (bO ir (sL I)) (dx I) ((by first|(refine bP (t:=168) ?_;(repeat (first|exact .head _ _|apply Vk.tail));done)|(refine ot (t:=168) (cin:=Gf bc ml b2 b3 b5 (.i room) (.slice Ac (J Z) cc) (.i fl) Ap cp SV (n9,LK9)) ?_ (bn ..);(repeat (first|exact .head _ _|apply Vk.tail));done))) rfl ?_);refine eY 1 I Zk Zk Zk (bO ir (sL I)) (dx I) ((by first|(refine bP (t:=168) ?_;(repeat (first|exact .head _ _|apply Vk.tail));done)|(refine ot (t:=168) (cin:=Gf bc ml b2 b3 b5 (.i room) (.slice Ac (J Z) cc) (.i fl) Ap cp SV (n9,LK9)) ?_ (bn ..);(repeat (first|exact .head _ _|apply Vk.tail));done))) rfl ?_;refine ZE 2 ?_;refine UE 3 1 ?_;refine ZG 4 ?_;refine UY 5 I (mz I) ?_;refine cP 6 Zk (wi_inv (cs':=dm (Gf bc ml b2 b3 b5 (.i room) (.slice Ac (J Z) cc) (.i fl) Ap cp SV (0,LK))::[slv 262 4 Ac (J Z) cc (Z.flatMap BA.cells),dm (Z.map VZ)]) (λw hi=>hi.Uz Zi) (jm I I (dh ([slv 262 4 Ac (J Z) cc (Z.flatMap BA.cells),dm (Gf bc ml b2 b3 b5 (.i room) (.slice Ac (J Z) cc) (.i fl) Ap cp SV (0,LK))]) I (λ_ _=>I) Zi (λw hi hin=>HD b2 b3 b5 w hin)) (λ_=>by rintro _ _ ⟨_,⟨rfl,rfl⟩,rfl⟩;exact(by first|(refine bP (t:=168) ?_;(repeat (first|exact .head _ _|apply Vk.tail));done)|(refine ot (t:=168) (cin:=Gf bc ml b2 b3 b5 (.i room) (.slice Ac (J Z) cc) (.i fl) Ap cp SV (n9,LK9)) ?_ (bn ..);(repeat (first|exact .head _ _|apply Vk.tail));done))) rfl ?_));refine Vz ?_;refine wa_inv (cs':=Gf bc ml b2 b3 b5 (.i room) (.slice Ac (J Z) cc) (.i fl) Ap cp SV (n9,LK9)++[slv 262 4 Ac (J (Z.filter λx=> !ff SV x)) cc ((Z.filter λx=> !ff SV x).flatMap BA.cells),dm (Z.map VZ)]) (λw hi=>(hi.perm (List.Perm.swap ..)).Ud) (ZE 7 ?_);refine UE 8 1 ?_;refine kt ?_;refine fq I I (mD ir I I I Za Zp) (λ_=>by rintro _ _ ⟨rfl,rfl⟩;exact(by first|(refine bP (t:=168) ?_;(repeat (first|exact .head _ _|apply Vk.tail));done)|(refine ot (t:=168) (cin:=Gf bc ml b2 b3 b5 (.i room) (.slice Ac (J Z) cc) (.i fl) Ap cp SV (n9,LK9)) ?_ (bn ..);(repeat (first|exact .head _ _|apply Vk.tail));done))) ?_;refine UR ?_;refine fh ?_;refine Va ?_;refine mL (cin:=Z.map VZ) (cin':=(Z.filter λx=> !ff SV x).map VZ) Zd (hsub.map _) (bK (VQ bc room ⟨ml,Ac,cc,fl,LK9,Z.filter λx=> !ff SV x⟩++[sl .i64 3 Ap (J SV) cp SV]) Zj (Fl (cs':=VQ bc room ⟨ml,Ac,cc,fl,LK9,Z.filter λx=> !ff SV x⟩++[sl .i64 3 Ap (J SV) cp SV]) (.inl I) (aL _) I I ⟨by grind,⟨ml,Ac,cc,fl,LK9,Z.filter λx=> !ff SV x⟩,I,hOk _ _,I⟩))
section
variable (S:Wj) (l:List HI) (fix:Li) (X:VX) (hl:J l<=50000)
include hl in
theorem xZ(r:Int)(hf:J fix<=1000):CI prog 304 [.p S.b,.i r] (UX S l fix X) (λr9 cs=>∃l' X',l'=l++[⟨17,0,r,0,0⟩]/\cs=UX S l' (fix++[(J l:Int)]) X'):=λw hi=>by
 refine Vb func304 ntmps304 hi ?_;refine Zs (bQ (Vg [11,14]) Zk ?_);refine CA ?_;refine UE 3 18 ?_;refine ZG 4 ?_;refine qM ?_;refine UE 7 17 ?_;refine gg ?_;refine m4 ?_;refine ZE 9 ?_;refine cP 10 Zk (wW ?_);rintro _ _ ⟨b14,rfl,rfl⟩;refine cP 11 Zk (jm I I (cC (e:=3) (sz:=1) (bytes:=8) I I Za I I (λw hi=>hi.rd (UJ (slv 3 1 (sA b14) 1 1 (ints .i64 [(J l:Int)])))) cR gD O) ZJ I ?_);rintro _ _ ⟨A2,c2,rfl,rfl⟩;rw[cy,show J fix+1=J (fix++[(J l:Int)]) by simp];refine ZE 12 ?_;refine UE 13 18 ?_;refine ku ?_;refine iT ?_;refine UQ ?_;refine wF ?_;rintro _ _ ⟨b21,rfl,rfl⟩;refine dH (UX S l (fix++[(J l:Int)]) ⟨X.Al,X.cl,A2,c2⟩) (λw hi hin=>lG S l (fix++[(J l:Int)]) ⟨X.Al,X.cl,A2,c2⟩ hl [⟨17,0,r,0,0⟩] (sA b21) 1 cJ w hin (λw' hk=>cY (hi.TM Zi (UJ (slv 370 5 (sA b21) 1 1 ([⟨17,0,r,0,0⟩].flatMap HI.cells))) hk))) ?_;rintro _ _ ⟨_,X2,rfl,rfl⟩;refine Zn (io (cs':=UX S (l++[⟨17,0,r,0,0⟩]) (fix++[(J l:Int)]) X2) (.inr I) Zu I ?_);exact pP
end
end
variable{rest:List bJ}{w0 w:World}
section
attribute [local irreducible] Ve bN
def ia(LK:List (Ky×LS))(k:Ky):LS:=gr LK k LS.zero
variable{LK:List (Ky×LS)}{k:Ky}
theorem nK(h:cN (·.1) k LK=none):ia LK k=LS.zero:=uT h _
theorem nJ{j:Nat}(h:cN (·.1) k LK=some j):∃x,LK[j]? =some (k,x)/\ia LK k=x:=by
 obtain⟨hj,hk⟩:=fJ h;have hx:LK[j]? =some (k,LK[j].2):=by rw[ak hj,<-hk]
 exact⟨_,hx,rq h hx _⟩
theorem Lz(LK:List (Ky×LS))(k:Ky):gr (Wf LK) k (.slice none 0 0)=(ia LK k).v:=yV LS.v LK k LS.zero
theorem BO(LK:List (Ky×LS))(k:Ky):cN (·.1) k (Wf LK)=cN (·.1) k LK:=kB (key:=λx:Ky×LS=>x.1) (key':=λx:Ky×Value=>x.1) (λx:Ky×LS=>(x.1,x.2.v)) ir k LK
theorem ment_at(LK:List (Ky×LS))(k:Ky):(vc (Wf LK) k (.slice none 0 0))[zm (Wf LK) k]? =some (k,(ia LK k).v):=by
 grind [vc,zm,BO,cN,nJ,Wf,nK,LS.v,LS.zero]
theorem Pr(LK:List (Ky×LS))(k:Ky)(x:LS):(vc (Wf LK) k (.slice none 0 0)).set (zm (Wf LK) k) (k,x.v)=Wf (dS LK k x):=by
 unfold vc zm dS;rw[BO];cases h:cN (λx:Ky×LS=>x.1) k LK with
 |some j=>
  simp[Wf]
 |none=>
  simp[Wf]
theorem CL.put{keys:List Ky}(h:CL keys LK){f t:Ky}(hf:lD f)(ht:t∈keys)(hn:t∉(ia LK f).ks)(A:Oa)(c:Nat):CL keys (dS LK f ⟨A,c,(ia LK f).ks++[t]⟩):=by
 have hl:(ia LK f).ks.Nodup/\∀q,q∈(ia LK f).ks->q∈keys:=by
  cases hp:cN (λx:Ky×LS=>x.1) f LK with
  |some j=>obtain⟨x,hx,hl⟩:=nJ hp;rw[hl];exact(h _ (aG hx)).2
  |none=>rw[nK hp];exact⟨List.nodup_nil,λq hq=>nomatch hq⟩
 have hnew:lD f/\((ia LK f).ks++[t]).Nodup/\∀q,q∈(ia LK f).ks++[t]->q∈keys:=by
  refine⟨hf,?_,λq hq=>?_⟩
  .grind
  grind
 intro x hx;unfold dS at hx;cases hp:cN (λx:Ky×LS=>x.1) f LK with
 |some j=>
  rw[hp]at hx;rcases List.mem_or_eq_of_mem_set hx with hx|rfl
  .exact h x hx
  omega
 |none=>
  rw[hp]at hx;rcases aJ.1 hx with hx|hx
  .exact h x hx
  grind
def xI(LK:List (Ky×LS))(k:Ky):List bJ:=match cN (·.1) k LK with|some j=>(V8 LK).eraseIdx j|none=>V8 LK
theorem PJ{j:Nat}{x:LS}(h:cN (·.1) k LK=some j)(hx:LK[j]? =some (k,x)):(V8 LK).Perm (Ye x::(V8 LK).eraseIdx j):=by grind [oD,V8]
theorem lkTake{S:List Nat}(k:Ky)(h:Inv w0 S (dm (V8 LK)::rest) w):Inv w0 S (Ye (ia LK k)::dm (xI LK k)::rest) w:=by
 unfold xI;cases hp:cN (λx:Ky×LS=>x.1) k LK with
 |some j=>
  obtain⟨x,hx,hl⟩:=nJ hp;rw[hl];exact h.T6 (PJ hp hx)
 |none=>
  rw[nK hp];exact(h.more (zw w [] 173 2)).perm (List.perm_append_singleton _ _)
theorem lkPut(LK:List (Ky×LS))(k:Ky)(x:LS):(V8 (dS LK k x)).Perm (Ye x::xI LK k):=by
 grind [xI,dS,cN,fJ,V8,tS,List.map_set,List.perm_append_singleton]
theorem LW(A:Oa)(c:Nat)(l:List Ky)(x:Ky)(w:World)(h:U5 w 2 A (J l) c (l.flatMap cD)):UW prog 247 [.slice A (J l) c,.agg (cD x).toArray] w [] (λv cs=>(∃z,v= .i z/\decide (0<=z)=l.contains x)/\cs=[]):=by
 have hlm:=aN h.cap h.max;simp only[maxLen]at hlm;refine UV func247 ntmps247 ?_;refine An ?_;refine ZO λb3=>?_;refine fR ?_;refine Vs (λk:Nat=>[(0,.slice A (J l) c),(3,.p b3),(7,.i (J l:Int)),(8,.i (k:Int))]) (λ_=>[XI b3 x]) (λk=>k<=J l/\(l.drop k).contains x=l.contains x) (λk=>J l - k) (0) bZ ?_;rintro k ⟨hk,hc⟩;refine UH ?_ ?_<;>intro hc2
 .simp only[ai]at hc2;have hkl:k<J l:=O;obtain⟨ad,had⟩:=h.some_ O;have h2:=h;rw[had]at h2;obtain⟨y,hy⟩:∃y,l[k]? =some y:=⟨_,ak hkl⟩;rw[qI hy]at hc;refine gP ?_;refine jf ?_;refine ZI 0 ?_;refine ZE 1 ?_;refine ZE 2 ?_;refine UY 3 I (iy (j:=k) had I ir py py ir (λ_=>hkl)) ?_;refine Vn 4 I (bX (vs:=cD y) ir ir py) (fB h2 (λi v hi=>fw (f:=cD) ir (i:=i) hy hi)) ?_;refine UY 5 I (Ju vr (D7 x y) (Zv I) (Zv I)) ?_;refine tC ?_;refine ZW ?_ ?_<;>intro hc4
  .have hcx:l.contains x=true:=bZ;refine fR ?_;refine Wl ?_;exact⟨⟨_,I,by grind⟩,rfl⟩
  rw[List.contains_cons,hc4,bj]at hc;refine ii ?_;refine VM (k+1) bZ
 simp only[aa]at hc2;obtain rfl:k=J l:=O;rw[List.drop_length]at hc;refine nY ?_;exact⟨⟨_,I,by grind⟩,rfl⟩
theorem Cr(A:Oa)(c:Nat)(l:List Ky)(x:Ky)(w:World)(h:U5 w 2 A (J l) c (l.flatMap cD)):CW prog 195 [.slice A (J l) c,.agg (cD x).toArray] w (.bool (l.contains x)):=by
 refine UV func195 ntmps195 ?_;refine An ?_;refine ZO λb3=>?_;refine US ?_;refine Vl (λw hi=>LW A c l x w (h.Tb hi)) ?_;exact Wx80_
end
end Go.Ink
