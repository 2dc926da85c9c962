/- Lemmas. -/
import Derived.Test.YtepfimeihngjoaaGreatDoorYab
import Derived.Test.YtepfimeihngjoaaGreatDoorYac
set_option linter.all false
set_option maxRecDepth 100000
set_option maxHeartbeats 4000000
namespace Go.Ink
open List renaming length→J
open IntKind renaming wrap→V9
open Go.RowKit Go.Proofs.Tryz
section
attribute [local irreducible] UL bM
theorem FS{f:FuncId}{args:List Value}{w:World}(h:Uz prog f args w [] (λv cs=>v= .bool true/\cs=[])):Calls prog f args.toArray w λe w'=>e= .returned (.bool true)/\Below w.heap.size w w':=
 Calls.mono h λ_ _ ⟨_,_,he,⟨h1,h2⟩,hi⟩=>⟨by rw[he,h1],hi.S1.below⟩
def ς(A:Oa):List Value->List Nat
 |[]=>[]
 |_::_=>ab A
def V6(A:Oa)(n c:Nat)(xs:List Value):bH:= .gen (ς A xs) (λw=>UJ w 1 A n c xs)
 (λw w' hb h=>⟨h.len,h.cap,h.max,h.nil,λad e j u hu=>by
  have h1:=h.at_ ad e j u hu;rw[H9]
  ·exact h1
  rw[lp];refine hb _ ?_;cases xs with
  |nil=>simp at hu
  |cons x xs=>subst e;simp[ς,ab]⟩)
 (λw h b hb=>by
  cases xs with
  |nil=>cases hb
  |cons x xs=>
   cases hA:A with
   |none=>rw[hA]at hb;simp[ς,ab]at hb
   |some ad=>
    rw[hA]at hb;simp only[ς,ab,aQ]at hb;subst hb;have:=cell_lt (h.at_ ad hA 0 x I);rwa[lp]at this)
variable{w:World}{A:Oa}{n c:Nat}{xs:List Value}
theorem uq(h:(V6 A n c xs).ok w):UJ w 1 A n c xs:=h
variable{cs cs':List bH}{c':bH}
theorem XQ.subs{c:bH}(hu:XQ cs c c' cs'):c'.bs.Sublist c.bs->(bK cs').Sublist (bK cs)/\∀x,x∈cs'->x∈cs\/x=c':=by
 induction hu with
 |head d d' cs=>exact λhs=>⟨by rw[dB,dB];exact hs.append (aO _),λx hx=>by
   rcases aI.1 hx with h|h
   ·exact .inr h
   exact .inl (bo _ h)⟩
 |tail d _ ih=>
  intro hs;obtain⟨i1,i2⟩:=ih hs;exact⟨by rw[dB,dB];exact(aO _).append i1,λx hx=>by
   rcases aI.1 hx with h|h
   ·exact .inl (h▸List.mem_cons_self ..)
   rcases i2 x h with h|h
   ·exact .inl (bo _ h)
   exact .inr h⟩
theorem Inv.convS{w0:World}{S:List Nat}{c:bH}(h:Inv w0 S cs w)(hu:XQ cs c c' cs')(hs:c'.bs.Sublist c.bs)(hok:c.ok w->c'.ok w):Inv w0 S cs' w:=by
 obtain⟨k1,k2⟩:=hu.subs hs;exact⟨h.S1,k1.nodup h.nodup,λx hx=>by
  rcases k2 x hx with hx|rfl
  ·exact h.ok x hx
  exact hok (h.ok c hu.has.mem),λb hb=>h.own b (k1.subset hb)⟩
section
variable{C:Cx}{Q:kW}{fr:Fr}{cs:List bH}{c c':bH}
theorem AB{e:Exit}{mk:bH->List bH}(hu:At cs c mk)(hs:c'.bs.Sublist c.bs)(hok:∀w,c.ok w->c'.ok w)(h:Vh C Q e fr (mk c')):Vh C Q e fr cs:=λa w hf hi=>h a w hf (hi.convS (hu c') hs (hok w))
end
theorem Pv(w:World)(S:List Nat):Inv w S [V6 none 0 0 []] w:=
 ⟨cX.refl _ _,by simp[bK,V6,bH.bs,ς],λc hc=>by
  rw[aQ]at hc;subst hc;exact(⟨I,aL _,ay _,λ_=>⟨I,I⟩,λad e=>by cases e⟩:UJ w 1 none 0 0 []),λb hb=>by simp[bK,V6,bH.bs,ς]at hb⟩
theorem Α{C:Cx}{Q:kW}{fr:Fr}{ops:Array Oper}{rest:List Oper}(h:WL C ops Q rest fr (cs++[V6 none 0 0 []])):WL C ops Q rest fr cs:=λa w hf hi=>h a w hf (hi.more (Pv w []))
variable{ad r:Addr}{x:Value}
theorem On(hr:(some r:Oa)=(if c=1 then some ad else(some ad).map (·.add (1*1))))(w:World)(h:(V6 (some ad) (n+1) c (x::xs)).ok w):(V6 (some r) n (c - 1) xs).ok w:=by
 have h1:=(uq h).cut (lo:=1) (hi:=n+1) O (aL _);have hl:=(uq h).len;rw[<-hr,List.take_of_length_le (by rw[hl];omega),Nat.add_sub_cancel]at h1;exact h1
theorem Ay(hr:(some r:Oa)=(if c=1 then some ad else(some ad).map (·.add (1*1)))):(ς (some r) xs).Sublist (ς (some ad) (x::xs)):=by
 have e:r.block=ad.block:=by
  split at hr
  .rw[aG hr]
  rw[Option.map_some]at hr;rw[aG hr,lp]
 cases xs with
 |nil=>exact List.nil_sublist _
 |cons y ys=>simp[ς,ab,e]
theorem Oo(h:(V6 A n c xs).ok w)(hn:0<n):∃ad,A=some ad:=by
 cases A with
 |none=>have:=((uq h).nil I).1;omega
 |some ad=>exact⟨ad,I⟩
end
def EqI(P:Program)(k e c:Nat)(xs ys:Array Value)(is:List Nat):Prop:=∀w:World,(Op.eqItems k e c xs ys is).run P w= .ok true w
theorem EqI.nil{P:Program}{k e c:Nat}{xs ys:Array Value}:EqI P k e c xs ys []:=λw=>I
theorem EqI.cons{P:Program}{k e c i:Nat}{xs ys:Array Value}{is:List Nat}{a b:Value}(ha:∀w,(part e xs (i*c)).run P w= .ok a w)(hb:∀w,(part e ys (i*c)).run P w= .ok b w)(he:φ P k e a b)(h:EqI P k e c xs ys is):EqI P k e c xs ys (i::is):=λw=>by
 simp only[Op.eqItems,Sem.run_bind,ha w,hb w,Result.andThen_ok,he w,Bool.not_true,Bool.false_eq_true,if_false];exact h w
section
variable{C:Cx}{fr:Fr}{cs:List bH}
theorem y_neg{g:Bool}{x:Operand}{k:IntKind}{a r:Int}{d:Option Tmp}{T ty:TypeId}{pos:String}{af:Array Edge}{gd:Option (Nat×Bool)}(hx:Ev fr g x (.int k a))(hr:k.wrap (0 - a)=r):UL C ⟨d,.unOp .neg T x,ty,pos,af,gd⟩ fr g U4 (.int k r):=λA w hf _ hg=>by
 subst hr;unfold execOp;simp only[hx.eval hf hg]
 rfl
theorem Og{fn:Func}{K:Value->List bH->Prop}{cs':List bH}{e:Exit}{t T bb tt u s:Nat}{v v':Value}{xs:List Value}(he:e= .ret\/e= .normal)(hs:cs'.Sublist cs)(h0:fn.results= #[.cell t T,.tmp u,.tmp s])(h1:look fr t=some (.p bb))(h2:look fr u=some v)(h3:look fr s=some v')(hc:UQ cs (row bb xs tt))
  (hT:∀w,(isAgg T).run C.P w= .ok true w) (hz:∀w,(sizeOf T).run C.P w= .ok (J xs) w) (hk:K (.tuple #[.agg xs.toArray,v,v']) cs'):Vh C (bodyPost C.P fn (zn C.w0 C.S K)) e fr cs:=
 np he hs (λa w hf hi=>by
  have e1:=hf.at_ t _ h1;have e2:=hf.at_ u _ h2;have e3:=hf.at_ s _ h3;simp only[Array.getD_eq_getD_getElem?]at e1 e2 e3;simp[results,h0,e1,e2,e3,asAddr,gt hT hz hi hc]) hk
end
theorem Inv.TR{S:List Nat}{cs cin:List bH}{w0 w w':World}(h:Inv w0 S cs w)(hT:∀c,c∈cin->c∈cs)(hk:cX (bK cin) w w'):cX S w0 w':=
 ⟨hk.os.trans h.S1.os,hk.tape.trans h.S1.tape,hk.output.trans h.S1.output,aR h.S1.size hk.size,λb hb hS=>by
  refine(hk.block b (Nat.lt_of_lt_of_le hb h.S1.size) λhb2=>?_).trans (h.S1.block b hb hS);obtain⟨c,hc,hbc⟩:=dm.1 hb2;rcases h.own b (dm.2 ⟨c,hT c hc,hbc⟩)with h1|h1
  ·exact hS h1
  omega⟩
def PAok(C:Cx)(St:Dr)(ops:Array Oper)(p:PA):Prop:=
 ∃op ty pos af,ops[p.i]? =some ⟨some p.d,op,ty,pos,af,none⟩/\St.st p.i=false/\Nat.blt p.d C.N=true/\∀fr cs,Vx C ⟨some p.d,op,ty,pos,af,none⟩ fr cs false (λv cs'=>∃b,v= .p b/\cs'=cs++[row b p.zs p.T])
section
variable{C:Cx}{fr:Fr}{ops:Array Oper}{St:Dr}{listed:Array Bool}{pl:List PA}
structure PLok(C:Cx)(St:Dr)(ops:Array Oper)(pl:List PA)(listed:Array Bool)(fr:Fr):Prop where
 ok:∀p,p∈pl->PAok C St ops p
 fr:∀p,p∈pl->look fr p.d=none
 dn:(pl.map (·.d)).Nodup
 in_:(pl.map (·.i)).Nodup
 rd:∀p,p∈pl->p.i∈Region.ready .any ops listed
end
theorem PLok.of{C:Cx}{St:Dr}{ops:Array Oper}{pl:List PA}{listed:Array Bool}{fr:Fr}(ok:∀p,p∈pl->PAok C St ops p)(hfr:(pl.all λp=>(look fr p.d).isNone)=true)(hn:(pl.map (·.d)).Nodup/\(pl.map (·.i)).Nodup)
  (hrd:(pl.all λp=>(Region.ready .any ops listed).contains p.i)=true):PLok C St ops pl listed fr:=
 ⟨ok,λp hp=>by simpa using List.all_eq_true.1 hfr p hp,hn.1,hn.2,λp hp=>by simpa using List.all_eq_true.1 hrd p hp⟩
section
variable{C:Cx}{Q:kW}{fr:Fr}{cs:List bH}{ops:Array Oper}{d:Nat}{op:Op}{ty:TypeId}{pos:String}{af:Array Edge}{v:Value}{g:Bool}{St:Dr}{fuel:Nat}{listed:Array Bool}
theorem wn(i:Nat){l:List (Addr×Value)}(hi:ops[i]? =some ⟨some d,op,ty,pos,af,none⟩)(hs:Region.noSelect ops=true)(hfree:Region.free .any ops listed i=true)(hr:(Region.ready .any ops listed).contains i=true)
  (hy:UL C ⟨some d,op,ty,pos,af,none⟩ fr true (cells l) v) (hm:∀x,x∈l->x∈St.l0) (hV:∀w,Inv C.w0 C.S cs w->cells St.l0 w) (hd:Nat.blt d C.N=true)
  (h:WA C St ops Q fuel (listed.setIfInBounds i true) ((d,v)::fr) cs):WA C St ops Q (fuel+1) listed fr cs:=λa w hf hi'=>
 jp (V:=cells St.l0) (λ_ _ hp h x hx=>hp _ _ (h x hx)) hi (Region.noSelect_spec hs) (λ_ _ _ h=>h) fuel listed a w (λj oj hj hne hun hno=>⟨Region.free_spec hi hfree j oj hj hne hun hno,.inr (.inr λ_ _ h=>h)⟩)
  (by simpa using hr) (i4 (g:=true) fT (λa w hf hV hg=>hy a w hf (λx hx=>hV _ (hm x hx)) hg) hf) (hV w hi') (h _ w (hf.put (by simpa[Nat.blt_eq]using hd) _) hi')
theorem fU{bb:Nat}{xs:List Value}:∀x,x∈eX ⟨bb,0,none⟩ 0 xs->x∈pk bb xs:=λx hx=>by
 obtain⟨j,h1,h2⟩:=gE hx;obtain⟨ad,v⟩:=x;dsimp only at h1 h2;have:=dD (bb:=bb) h1;rw[h2,Addr.add_lit,bA,bA];exact this
end
section
open Go.ChangeShapes Go.WideShapes
theorem wR{P:Program}{w:World}{name:String}{g t e n:Nat}{k:IntKind}{Th:Li}{d:DataW Unit}(h:laidMetH P [(name,d)] w)(hp:laidMetH P [(name,d)] w=laidMet P [(name,d)] w)(hdv:d= .agg (Th.map λx=> .lit (.int k x)))
  (hg:P.globalNamed name=some g) (ht:(P.globals[g]?).map (·.type)=some t) (hu:P.underlying t=some (.array n e)) (he:P.underlying e=some (.int k)) (hc:P.cellsOf e=1) (hn:J Th=n) (hm:n<=maxLen):UJ w 1 (sA g) n n (ints k Th):=by
 rw[hp]at h;obtain⟨ps,⟨g0,t0,cs,f,p,q,hg0,ht0,hv0,hd0, -⟩, -, -⟩:=h;obtain rfl:=aG (hg.symm.trans hg0);obtain rfl:=aG (ht.symm.trans ht0);obtain⟨xs,m, -,hx, -,hxl,hxs⟩:=DataW.trod_array hu hd0;rw[hdv]at hx;simp only[aD,DataW.agg.injEq]at hx;have hcell:∀(i:Nat) (x:Int),Th[i]? =some x->cs[i]? =some (.int k x):=λi x hi=>by
  have hil:i<n:=by rw[<-hn];exact(ap.1 hi).1
  have h1:=hxs i hil;have hxi:xs[i]? =some (xs[i]'(by omega)):=aj O;rw[hxi,hc,Nat.mul_one]at h1;obtain⟨z,hz1,hz2, -⟩:=DataW.trod_int he h1;have h2:(xs.map (·.1))[i]? =some (.lit (.int k x)):=by rw[<-hx.1,List.getElem?_map,hi];rfl
  rw[List.getElem?_map,hxi]at h2;simp only[Option.map_some,aW]at h2;rw[hz2]at h2;simp only[DataW.lit.injEq,Lit.int.injEq,true_and]at h2;subst h2;have h3:((cs.toList.drop i).take 1)[0]? =some (.int k z):=by rw[hz1];rfl
  rw[List.getElem?_take,if_pos O,List.getElem?_drop]at h3;simpa using h3
 refine⟨by simp[ints,hn],aL _,hm,λe=>(by cases e),λad e j u hu=>?_⟩;obtain rfl:=(aG e).symm;unfold ints at hu;rw[List.getElem?_map]at hu;cases hj:Th[j]? with
 |none=>rw[hj]at hu;cases hu
 |some x=>
  rw[hj]at hu;obtain rfl:=(aG hu).symm;unfold World.var? at hv0;rw[hg]at hv0;simp only[Option.bind_some]at hv0;rw[Addr.add_lit];unfold World.cell?;cases hh:w.heap[g]? with
  |none=>rw[hh]at hv0;cases hv0
  |some o=>
   rw[hh]at hv0;cases o with
   |cells c el fz=>
    obtain rfl:=aG hv0;simpa using hcell j x hj
   |_=>cases hv0
set_option maxRecDepth 100000 in
theorem zX{C:Checked}{os:Os}{f:FuncId}{fn:Func}{s:ChangeSpec}{ts:List TypeId}{tb:TypeId}{H:Type}{enc:TypeId×Value->H}{laid:List (String×DataW Unit)}
  (own:ownKnob C.prog.godebug=none) (started:os.Started) (noInit:C.prog.inits.idxOf? f=none) (hfn:C.prog.funcs[f]? =some fn)
  (witness:∃(w:World) (tape:Tape) (i:Input),w.os=os/\(w.forCall tape i).Shaped C.prog/\i.vars=[]/\Input.okWide C.prog (w.forCall tape i) .any w.heap.size f i/\
   ((s.pre enc C.prog fn [] false (w.forCall tape i).memory i.args/\laidMetH C.prog laid (w.forCall tape i).memory)/\sizedMet enc C.prog fn (OpenSpec.ofChange s) false (w.forCall tape i).memory i.args)/\({}:Assume).holds C.prog (lone (Frame.enter C.prog f i.args .normal) [] (w.forCall tape i)))
  (hts:fn.params=ts.toArray) (hres:fn.resultTypes= #[tb]) (hb:C.prog.underlying tb=some .bool) (hvars:s.vars=[])
  (hs:∀ds:List (DataW H),J ds=J ts->s.fn H (ds++[])={results:=[.lit (.bool true)],args:=ds})
  (hl:laidOutB C.prog=true) (hread:ts.all (λt=>C.prog.readableRec t&&decide (t<C.prog.types.size))=true)
  (walk:∀(W:World) (vs:List Value),Args C.prog W ts vs->laidMetH C.prog laid W->Calls C.prog f vs.toArray W λe W'=>e= .returned (.bool true)/\Below W.heap.size W W'):
  ReturnsInHanded {} C os f .any (λw args=>(s.pre enc C.prog fn [] false w args/\laidMetH C.prog laid w)/\sizedMet enc C.prog fn (OpenSpec.ofChange s) false w args) (s.post enc C.prog fn false true false false):=by
 refine returnsInHanded_of_change_and (C:=C) (X:=λw _=>laidMetH C.prog laid w) (λ_ _ _ hh h=>h.of_heap hh) own started noInit hfn witness ?_;intro W base args ds gs before hval hW hcnd hsz hX _;have hW':=hW;obtain⟨p,q,hA,hV,rfl,hfz,hnd⟩:=hW;obtain⟨rfl,rfl⟩:gs=[]/\q=[]:=by
  rw[hvars]at hV;cases gs with
  |nil=>exact⟨I,hV⟩
  |cons g gs=>exact absurd hV (by simp[DataW.TrodVars])
 have hA':DataW.TrodAll enc C.prog W 0 (λ_=>true) true ts args.toList ds p:=by
  rw[hts]at hA;exact hA
 have hsz':∀m∈DataW.weightsEach C.prog ts ds,m<=reachBytes:=by
  have e:fn.params.toList++s.plain.varTypes C.prog=ts:=by simp[hts,DataSpec.varTypes,ChangeSpec.plain,hvars]
  rw[e,ax]at hsz;intro m hm;have:=List.all_eq_true.1 hsz m hm;simpa using this
 have hval':∀(j:Nat) t v,ts[j]? =some t->args.toList[j]? =some v->Value.okWide C.prog W .any base t v:=λj t v h1 h2=>hval j t v (by rw[hts];simpa using h1) (by simpa using h2)
 have hw:=walk W args.toList (MF hA' hval' hsz') hX;rw[Array.toArray_toList]at hw;refine hw.mono λe W' hh=>?_
 obtain⟨rfl,bel⟩:=hh;have hspec:=hs ds (tQ hA');refine⟨_,I,ds,[],p++[],[],p,[],hW',?_,?_,?_,?_,λh=>by cases h⟩
 .rw[hspec,hres];exact trodAll_mk1 (shut_bool hb _)
 .rw[hspec,hts];exact pV hl bel hread hA'
 .rw[hspec,hvars]
  rfl
 exact bel.frame _
end
end Go.Ink
namespace Go.Ink
open List renaming length→J, replicate→R9
open IntKind renaming wrap→V9
open Go.RowKit Go.Proofs.Tryz
def lE(l:List Bool):List Value:=l.map Value.bool
theorem nP(l:List Bool):J (lE l)=J l:=by simp[lE]
variable{j:Nat}
theorem FZ{l:List Bool}{b:Bool}(h:l[j]? =some b):(lE l)[j]? =some (.bool b):=by simp[lE,h]
theorem qw(l:List Bool)(j:Nat)(b:Bool):(lE l).set j (.bool b)=lE (l.set j b):=by simp[lE]
theorem eh{k:IntKind}(xs:Li)(j:Nat)(v:Int):(ints k xs).set j (.int k v)=ints k (xs.set j v):=by simp[ints]
def di(B ow pr:Li):List Value:=ints .u8 B++(ints .i64 ow++ints .i64 pr)
section
variable{B ow pr:Li}
theorem iL(h:dz B ow pr):J (di B ow pr)=16644:=by
 simp[di,du,h.b,h.ow,h.pr]
theorem pool_B{i:Nat}{v:Int}(h:B[i]? =some v):(di B ow pr)[i]? =some (.int .u8 v):=by
 grind [di,du,bX]
theorem uu(hl:dz B ow pr){i:Nat}{v:Int}(h:ow[i]? =some v):(di B ow pr)[16384+i]? =some (.i v):=by
 grind [di,du,hl.b,bX]
theorem C1(hl:dz B ow pr){i:Nat}{v:Int}(h:pr[i]? =some v):(di B ow pr)[16640+i]? =some (.i v):=by
 grind [di,du,hl.b,hl.ow,bX]
theorem Ka{i:Nat}(hi:i<J B)(v:Int):(di B ow pr).set i (.int .u8 v)=di (B.set i v) ow pr:=by
 grind [di,du,eh]
theorem qY(hl:dz B ow pr){i:Nat}(hi:i<256)(v:Int):(di B ow pr).set (16384+i) (.i v)=di B (ow.set i v) pr:=by
 grind [di,du,hl.b,hl.ow,eh]
theorem qX(hl:dz B ow pr){i:Nat}(v:Int):(di B ow pr).set (16640+i) (.i v)=di B ow (pr.set i v):=by
 grind [di,du,hl.b,hl.ow,eh]
def eL(B:Li)(f:Nat):List Int:=B.take (f*64)++R9 64 0++B.drop (f*64+64)
theorem J9(hl:dz B ow pr){f:Nat}(hf:f<256):(di B ow pr).take (f*64)++R9 64 (Value.int .u8 0)++(di B ow pr).drop (f*64+64)=di (eL B f) ow pr:=by
 unfold di eL;have h1:f*64<=J (ints .u8 B):=by rw[du,hl.b];omega
 have h2:f*64+64<=J (ints .u8 B):=by rw[du,hl.b];omega
 rw[List.take_append_of_le_length h1,List.drop_append_of_le_length h2,<-aq _ _ (ints .i64 ow++ints .i64 pr)];simp[ints]
theorem xu(hB:J B=16384){f:Nat}(hf:f<256):J (eL B f)=16384:=by
 grind [eL]
theorem zq(hB:J B=16384){f j:Nat}(hf:f<256)(hj:j<64):(eL B f)[f*64+j]? =some 0:=by
 grind [eL]
theorem pK(hB:J B=16384){f i:Nat}(hf:f<256)(hi:i<f*64\/f*64+64<=i):(eL B f)[i]? =B[i]? :=by
 unfold eL;rcases hi with hi|hi
 .grind
 rw[List.getElem?_append_right Do,List.getElem?_drop]
 grind
end
section
attribute [local irreducible] UL bM
abbrev dF(bp:Nat)(B ow pr:Li):bH:=row bp (di B ow pr) 206
variable{α:Type}{n k:Nat}
theorem yf(a b:α)(h:k<n):(R9 k a++R9 (n - k) b).set k a=R9 (k+1) a++R9 (n - (k+1)) b:=by
 rw[List.set_append_right _ _ cE,aB,Nat.sub_self,show n - k=(n - (k+1))+1 by omega,List.replicate_succ,List.set_cons_zero,List.replicate_succ',aq]
 rfl
theorem pm(k:IntKind)(n:Nat)(a:Int):R9 n (Value.int k a)=ints k (R9 n a):=by simp[ints]
theorem yh(n:Nat)(a:Bool):R9 n (Value.bool a)=lE (R9 n a):=by simp[lE]
theorem EU{B ow pr:Li}(hl:dz B ow pr):((di B ow pr).drop 16640).take (J (ints .i64 pr))=ints .i64 pr:=by
 grind [di,du,hl.b,hl.ow,ints,List.append_assoc,List.drop_append,List.drop_eq_nil_of_le,List.take_length]
abbrev jS(bt bp:Nat)(o:Nat)(bf bg n:Nat):bH:=row bt [.p bp,.i o,.slice (sA bf) n n,.slice (sA bg) n n] 277
abbrev Xr(bf n:Nat)(fr:Li):bH:=sl .i64 3 (sA bf) n n fr
abbrev gdC(bg n:Nat)(gd:List Bool):bH:=slv 4 1 (sA bg) n n (lE gd)
def Uy.put(M:Uy)(a:Nat)(b:Int):Uy:=⟨M.data.set a b,M.SD.set (a/64) true⟩
def Uy.calm(M:Uy):Uy:=⟨M.data,R9 64 false⟩
theorem nu:∀(n:Nat) (l:List Nat),l.Nodup->(∀x,x∈l->x<n)->J l<=n
 |0,l,_,h=>by
  cases l with
  |nil=>simp
  |cons x l=>have:=h x cE;omega
 |n+1,l,hn,h=>by
  by_cases hm:n∈l
  .have h1:=nu n (l.erase n) (hn.erase n) (λx hx=>by
    grind)
   grind
  have h1:=nu n l hn (λx hx=>by
   grind)
  omega
section
variable{L:ez}{M:Uy}{k:Cb}
theorem dK.few(h:dK L M k){fs:List Nat}(hnd:fs.Nodup)(hmem:∀f,f∈fs->((f:Nat):Int)∈k.fr):J fs<=L.n/\∀p:Nat,k.fr[p]? =some (-1)->J fs<L.n:=by
 have h1:=Ll hnd hmem;have h3:∀x,x∈fs.map (λf:Nat=>k.fr.idxOf (f:Int))->x<L.n:=λx hx=>by
  grind [h.fr]
 refine⟨by have:=nu L.n _ h1 h3;grind,λp hp=>?_⟩;have hpl:p<L.n:=by have:=(ap.1 hp).1;rw[h.fr]at this;exact this
 have h2:=nu L.n (p::fs.map λf:Nat=>k.fr.idxOf (f:Int)) (List.nodup_cons.2 ⟨λhm=>by
  grind,h1⟩) (λx hx=>by
  grind)
 grind
theorem dK.heldAll(h:dK L M k):J (dU k.ow L.o 256)<=L.n/\∀p:Nat,k.fr[p]? =some (-1)->J (dU k.ow L.o 256)<L.n:=by
 unfold dU;rw[List.length_map];refine h.few (List.filter_sublist.nodup List.nodup_range) (λf hf=>?_);rw[List.mem_filter,List.mem_range]at hf;have e:=eq_of_beq hf.2;rcases h.held f hf.1 with⟨-,h1⟩|⟨-, -,q,hq⟩|⟨h1,h2, -⟩
 .grind
 .grind
 grind [ez.oth]
theorem dK.heldLt(h:dK L M k){p:Nat}(hp:k.fr[p]? =some (-1)):J (dU k.ow L.o 256)<L.n:=h.heldAll.2 p hp
theorem dK.free(h:dK L M k){p:Nat}(hp:k.fr[p]? =some (-1)):∃f,16<=f/\f<256/\k.ow[f]? =some (-1):=by
 apply Classical.byContradiction;intro hno;have h1:=(h.few (fs:=(List.range' 16 240).filter (λf=> !L.oth f)) (List.filter_sublist.nodup List.nodup_range') (λf hf=>by
  rw[List.mem_filter,List.mem_range'_1]at hf;rcases h.held f (by omega)with⟨-,h1⟩|⟨-, -,q,hq⟩|⟨h1, -⟩
  ·grind
  ·grind
  grind)).2 p hp
 grind [h.cap]
theorem dK.put0(h:dK L M k){p j:Nat}(hj:j<64)(hp:p<L.n)(hf:k.fr[p]? =some (-1)):dK L (M.put (p*64+j) 0) k:=by
 have hz:M.data[p*64+j]? =some 0:=by
  rcases h.SR p hp with⟨_,h2⟩|⟨g,h1,_⟩
  .grind
  grind
 have e:M.data.set (p*64+j) 0=M.data:=by
  apply List.ext_getElem?;intro i;rw[List.getElem?_set];split
  .grind
  rfl
 unfold Uy.put;rw[e];exact⟨h.pl,h.o4,h.n1,h.n64,h.fr,h.gd,h.dl,by grind [h.tl],h.db,h.SR,h.inj,h.held,h.prom,h.prs,h.cap⟩
theorem dK.calm(h:dK L M k):dK L M.calm k:=⟨h.pl,h.o4,h.n1,h.n64,h.fr,h.gd,h.dl,aB,h.db,h.SR,h.inj,h.held,h.prom,h.prs,h.cap⟩
end
variable{L:ez}
theorem PL(h:n<=J ((List.range' 16 240).filter (λf=>L.gw[f]? ==some (-1)))):n<=J ((List.range' 16 240).filter (λf=> !L.oth f)):=
 aR h (List.Sublist.length_le (by
  rw[show(List.range' 16 240).filter (λf=>L.gw[f]? ==some (-1))=((List.range' 16 240).filter (λf=> !L.oth f)).filter (λf=>L.gw[f]? ==some (-1)) by
   rw[List.filter_filter]
   grind [ez.oth]]
  exact List.filter_sublist))
def fI(L:ez)(tu:List Bool):List Value:= .p L.bp:: .p L.bt::(lE tu++[.bool false])
abbrev sc(L:ez)(tu:List Bool):bH:=row L.bm (fI L tu) 189
variable{tu:List Bool}
theorem uA(h:J tu=64):(fI L tu)[66]? =some (.bool false):=by
 grind [fI,nP]
theorem nz(h:J tu=64):J (fI L tu)=67:=by simp[fI,nP,h]
theorem ny(hj:j<J tu)(b:Bool):(fI L tu).set (2+j) (.bool b)=fI L (tu.set j b):=by
 grind [fI,nP,qw]
theorem AR:((fI L tu).drop 2).take (J (lE tu))=lE tu:=by
 unfold fI;simp
theorem yz(h:J tu=64):(fI L tu).take 2++R9 64 (Value.bool false)++(fI L tu).drop (2+64)=fI L (R9 64 false):=by
 grind [fI,lE,nP,yh]
def zi(L:ez)(tu:List Bool)(k:Cb):List bH:=[dF L.bp k.B k.ow k.pr,jS L.bt L.bp L.o L.bf L.bg L.n,Xr L.bf L.n k.fr,gdC L.bg L.n k.gd,sc L tu]
abbrev eY(L:ez)(M:Uy):bH:=VD [L.bp,L.bt,L.bf,L.bg,L.bm] (zi L M.SD) ir (dK L M)
theorem qg{M:Uy}{w:World}(h:(eY L M).ok w):∃k,dK L M k/\(dF L.bp k.B k.ow k.pr).ok w/\(jS L.bt L.bp L.o L.bf L.bg L.n).ok w/\(Xr L.bf L.n k.fr).ok w/\(sc L M.SD).ok w:=by
 obtain⟨k,h1,h2⟩:=R8 h;exact⟨k,h1,h2 _ (.head _ _),h2 _ (.tail _ (.head _ _)),h2 _ (.tail _ (.tail _ (.head _ _))),h2 _ (.tail _ (.tail _ (.tail _ (.tail _ (.head _ _)))))⟩
def vd(f:Int):Value:=bif f== -1 then .tuple #[.i 0,.bool false]else .tuple #[.i f,.bool true]
variable{d:Li}{a:Nat}
theorem fF(h:UO d)(a:Nat):0<=gB d a/\gB d a<=255:=by
 unfold gB;by_cases hl:a<J d
 .rw[aM,aj hl];exact h _ (List.getElem_mem hl)
 grind
theorem zz{d:Li}(h:UO d)(a:Nat):∀k,0<=sy d a k/\sy d a k<256^k
 |0=>by simp[sy]
 |k+1=>by
  have h1:=zz h a k;have h2:=fF h (a+(3 - k))
  grind [sy]
theorem qM(h:UO d)(a:Nat):u32 (kY d a):=by
 have h1:=fF h a;have h2:=fF h (a+1);have h3:=fF h (a+2);have h4:=fF h (a+3);unfold kY;exact⟨by omega,by omega⟩
theorem Gl(h:UO d)(a:Nat){k:Nat}(hk:k<4):bits .or .u32 (V9 .u32 (sy d a k*2^(min (8:Int).toNat IntKind.u32.bits))) (gB d (a+(3 - k)))=sy d a (k+1):=by
 have h1:=zz h a k;have h2:=fF h (a+(3 - k));simp only[sy];generalize sy d a k=v at h1;have hv:0<=v/\v<16777216:=by
  obtain rfl|rfl|rfl|rfl:k=0\/k=1\/k=2\/k=3:=by omega
  all_goals (simp at h1;omega)
 have e1:(2:Int)^(min (8:Int).toNat IntKind.u32.bits)=256:=rfl;rw[e1,u32_wrap_id _ O O];exact bits_join .u32 32 An wraps_u32 8 (v*256) _ O O O O O O
theorem tN(v:Int){k:Nat}(hk:k<4):V9 .u8 (v.fdiv (2^(min (V9 .u32 (8*(k:Int))).toNat IntKind.u32.bits)))=mj v k:=by
 have e:∀n:Nat,v.fdiv (2^n)=v/2^n:=λn=>Int.fdiv_eq_ediv_of_nonneg v Do
 rw[e,IntKind.wrap_u8];unfold mj;obtain rfl|rfl|rfl|rfl:k=0\/k=1\/k=2\/k=3:=by omega
 all_goals rfl
def Uy.SY(M:Uy)(a:Nat)(v:Int):Nat->Uy
 |0=>M
 |k+1=>(Uy.SY M a v k).put (a+k) (mj v k)
def Uy.Tm(M:Uy)(a:Nat)(v:Int):Uy:=M.SY a v 4
def Uy.fill(M:Uy)(a:Nat)(l:Li):Nat->Uy
 |0=>M
 |k+1=>(Uy.fill M a l k).put (a+k) (gB l k)
theorem pv(f:Nat):vd (f:Int)= .tuple #[.i f,.bool true]:=by
 grind [vd]
theorem Ib{l:List Bool}(h:j<J l):(lE l)[j]? =some (.bool (l.getD j false)):=by
 grind [FZ]
theorem Bv(M:Uy)(l:Li):∀k,k<=J l->J l<=J M.data->(M.fill 0 l k).data=l.take k++M.data.drop k
 |0,_,_=>by simp[Uy.fill]
 |k+1,h,h2=>by
  have ih:=Bv M l k O h2;rw[Uy.fill];show(M.fill 0 l k).data.set (0+k) (gB l k)=_
  grind [gB,sK,List.set_append_right,List.length_take,min,List.drop_eq_getElem_cons,List.take_add_one,List.append_assoc]
def Uy.init(n:Nat)(b:Li):Uy:=⟨b++R9 (n*64 - J b) 0,R9 64 false⟩
theorem mQ{M:Uy}{w:World}(h:(eY L M).ok w):1<=L.n/\L.n<=64/\J M.data=L.n*64/\UO M.data/\J M.SD=64:=by
 obtain⟨k,hr,_⟩:=qg h;exact⟨hr.n1,hr.n64,hr.dl,hr.db,hr.tl⟩
def Cg(L:ez)(M:Uy)(a:Nat):Value:=bif decide (a+4<=L.n*64)then .tuple #[.w (kY M.data a),.bool true]else .tuple #[.w 0,.bool false]
def dC(T:List TE):List Value:=T.flatMap TE.cells
def Tr.none:Tr:=⟨0,0⟩
abbrev TE.v(e:TE):Value:= .agg e.cells.toArray
theorem eC:∀T:List TE,J (dC T)=J T*4
 |[]=>rfl
 |e::T=>by
  have:=eC T;simp only[dC]at this;simp[dC,TE.cells,this];omega
theorem jt:∀{T:List TE} {i:Nat} {e:TE},T[i]? =some e->((dC T).drop (i*4)).take 4=e.cells
 |[],i,e,h=>by simp at h
 |x::T,0,e,h=>by
  simp only[List.getElem?_cons_zero,aW]at h;subst h
  rfl
 |x::T,i+1,e,h=>by
  simp only[List.getElem?_cons_succ]at h;have:=jt h
  grind [dC,TE.cells]
theorem kZ:∀{T:List TE} {i:Nat} (e:TE),i<J T->(dC T).take (i*4)++e.cells++(dC T).drop (i*4+4)=dC (T.set i e)
 |[],i,e,h=>by simp at h
 |x::T,0,e,_=>by simp[dC,TE.cells]
 |x::T,i+1,e,h=>by
  have ih:=kZ (T:=T) (i:=i) e Do
  grind [dC,TE.cells]
def wM(b:Int)(Sy:Bool):Int:=bif Sy then b else bits .or .u32 b 16
def asked(kind:Int)(Sy:Bool):Int×Bool:=
 bif kind==1 then(wM 8 Sy,true)else bif kind==2 then(wM 2 Sy,true)else bif kind==3 then(wM 68 Sy,true)else(0,false)
def oL(kind:Int)(Sy:Bool):Int:=
 wM (bif kind==1 then bits .or .u32 1 8 else bif kind==2 then bits .or .u32 1 2 else bif kind==3 then bits .or .u32 1 4 else 1) Sy
def wx(T:List TE)(va:Nat):TE:=T.getD (va/64%16) TE.zero
def kC(e:TE)(va:Nat)(a:Int×Bool):Bool:=((!a.2|| !e.valid)||(e.vpn !=((va/64:Nat):Int)))||(bits .and .u32 e.bits a.1 !=a.1)
def oU(pfn:Int)(va:Nat):Int:=V9 .u32 (V9 .u32 (pfn*64)+((va%64:Nat):Int))
def pf(T:List TE)(va:Nat)(kind:Int)(Sy:Bool):Int×Bool:=
 bif kC (wx T va) va (asked kind Sy)then(0,false)else(oU (wx T va).pfn va,true)
def zG(T:List TE)(e:TE):List TE:=bif e.valid then T.set (e.vpn.toNat%16) e else T
def ph(T:List TE)(va:Nat):List TE:=bif(wx T va).vpn==((va/64:Nat):Int)then T.set (va/64%16) TE.zero else T
def dA:List TE:=R9 16 TE.zero
def iw(n:Nat)(d:Li)(a:Nat):Option Int:=bif decide (a+4<=n*64)then some (kY d a)else none
def Yg(r:Option (Nat×Int)):Value:=match r with|some (a,l)=> .tuple #[.w a,.w l,.bool true]|none=> .tuple #[.w 0,.w 0,.bool false]
def i3(l:Int)(kind:Int):Int:=bif kind==3 then bits .or .u32 (bits .or .u32 l 32) 64 else bits .or .u32 l 32
def leafE(va:Nat)(l:Int):TE:=⟨true,((va/64:Nat):Int),l/256,bits .and .u32 l 94⟩
structure Uo where
 m:Uy
 t:List TE
abbrev Sp.v(s:Sp):Value:= .agg #[.bool s.SJ,.bool s.Sy,.w (s.root:Int)]
abbrev ww(bb:Nat)(T:List TE):bH:=row bb (dC T) 299
theorem and1{v:Int}(h:u32 v):bits .and .u32 v 1=v%2:=bits_mask .u32 32 An wraps_u32 1 An v h.1 (by have:=h.2;omega)
theorem ML{v:Int}(h:u32 v):bits .and .u32 v 15=v%16:=bits_mask .u32 32 An wraps_u32 4 An v h.1 (by have:=h.2;omega)
theorem MI(v:Nat)(h:v<=4294967295):bits .andNot .u32 (v:Int) 63=((v/64*64:Nat):Int):=by
 show V9 .u32 (((BitVec.ofInt 32 (v:Int))&&& ~~~ (BitVec.ofInt 32 63)).toNat:Int)=_;have e1:(BitVec.ofInt 32 (v:Int)).toNat=v:=by rw[BitVec.ofInt_natCast,BitVec.toNat_ofNat];exact BS
 have h1:v&&&4294967232=(v/64)*64:=by
  apply Nat.eq_of_testBit_eq;intro i;have e:(4294967232:Nat)=(2^26 - 1)*2^6:=by decide
  rw[e,Nat.testBit_and,show(v/64)*64=(v/2^6)*2^6 from I];rw[Nat.testBit_mul_two_pow,Nat.testBit_mul_two_pow,Nat.testBit_two_pow_sub_one,Nat.testBit_div_two_pow];by_cases hi:6<=i
  .simp only[hi,decide_true,bz,show i - 6+6=i by omega];by_cases h26:i - 6<26
   .simp[h26]
   have:v.testBit i=false:=Nat.testBit_lt_two_pow (Nat.lt_of_lt_of_le (show v<2^32 by omega) (Nat.pow_le_pow_right O O));simp[this]
  simp[hi]
 grind [u32_wrap_id]
def PS(o:Option Int):Value:=match o with|some e=> .tuple #[.w e,.bool true]|none=> .tuple #[.w 0,.bool false]
theorem pw{e:Int}(h:UO d)(he:iw n d a=some e):u32 e/\a+4<=n*64:=by
 grind [iw,qM]
variable{va:Nat}
theorem eu(op:BinOp)(a b:Int):u32 (bits op .u32 a b):=by
 cases op<;>exact⟨by show 0<=V9 .u32 _;rw[au];omega,by show V9 .u32 _<=_;rw[au];omega⟩
theorem rf(l:Int)(kind:Int):u32 (i3 l kind):=by
 grind [i3,eu]
theorem Jn(T:List TE)(e:TE):J (zG T e)=J T:=by grind [zG]
theorem Jo(T:List TE)(va:Nat):J (ph T va)=J T:=by grind [ph,wx]
abbrev Cm(bu bm bb:Nat):bH:=row bu [.p bm,.p bb] 199
abbrev uF(bu bb:Nat)(L:ez)(U:Uo):List bH:=[Cm bu L.bm bb,eY L U.m,ww bb U.t]
abbrev V8(b:Nat)(t:Tr):bH:=row b t.cells 254
abbrev teC(b:Nat)(e:TE):bH:=row b e.cells 92
theorem uv(pfn:Int)(va:Nat):u32 (oU pfn va)/\oU pfn va%64=((va%64:Nat):Int):=by
 unfold oU;rw[au,au];exact⟨⟨by omega,by omega⟩,by omega⟩
structure nU(n:Nat)(va:Nat)(p:Int):Prop where
 u:u32 p
 m:p%64=((va%64:Nat):Int)
 r:p<((n*64:Nat):Int)\/iv p=true
def iA(a b:Int)(va j:Nat):Int:=bif decide (j<64 - va%64)then V9 .u32 (a+(j:Int))else V9 .u32 (b+((j - (64 - va%64):Nat):Int))
theorem pz{a:Int}(h:iv a=false){n:Nat}{va:Nat}(hp:nU n va a):a<((n*64:Nat):Int):=by
 grind [hp.r]
theorem lb{d:Li}(h:UO d):∀l:List Int,0<=ef d l/\ef d l<256^J l
 |[]=>by simp[ef]
 |a::l=>by
  have h1:=fF h a.toNat;have h2:=lb h l
  grind [ef]
theorem yp(h:UO d){l:Li}(hl:J l<=4){j:Nat}(hj:j<J l):bits .or .u32 (V9 .u32 (ef d (l.drop (j+1))*2^(min (8:Int).toNat IntKind.u32.bits))) (gB d (l[j]'hj).toNat)=ef d (l.drop j):=by
 have h1:=lb h (l.drop (j+1));have h2:=fF h (l[j]'hj).toNat;have h3:J (l.drop (j+1))<=3:=by rw[List.length_drop];omega
 rw[show l.drop j=l[j]'hj::l.drop (j+1)from List.drop_eq_getElem_cons hj];simp only[ef];generalize ef d (l.drop (j+1))=v at h1;generalize J (l.drop (j+1))=m at h1 h3;have hv:0<=v/\v<16777216:=by
  obtain rfl|rfl|rfl|rfl:m=0\/m=1\/m=2\/m=3:=by omega
  all_goals (simp at h1;omega)
 have e1:(2:Int)^(min (8:Int).toNat IntKind.u32.bits)=256:=rfl;rw[e1,u32_wrap_id _ O O,bits_join .u32 32 An wraps_u32 8 (v*256) _ O O O O O O];omega
def SZ(M:Uy)(l:Li)(v:Int):Nat->Uy
 |0=>M
 |k+1=>(SZ M l v k).put ((l.getD k 0).toNat) (mj v k)
theorem Ck(v:Int){k:Nat}(hk:k<4):V9 .u8 (v.fdiv (2^(min (V9 .i64 (8*(k:Int))).toNat IntKind.u32.bits)))=mj v k:=by
 rw[<-tN v hk];obtain rfl|rfl|rfl|rfl:k=0\/k=1\/k=2\/k=3:=by omega
 all_goals rfl
end
end Go.Ink
namespace Go.Ink
open List renaming length→J, replicate→R9
open IntKind renaming wrap→V9
open Go.RowKit Go.Proofs.Tryz
def uJ(l:List Nat):Nat->Int
 |0=>0
 |k+1=>bits .or .u32 (uJ l k) (V9 .u32 (1*2^(min (((l.getD k 0:Nat):Int)).toNat IntKind.u32.bits)))
def kG(l:List Nat):Int:=uJ l (J l)
def dL(n:Nat)(M:Uy)(SV:Li)(SA a cmd:Nat):Bool×Uy×List Int:=
 bif !ix n SA a then(false,M,SV)else
 bif cmd==1 then(true,M.fill (a/64*64) ((SV.drop (SA*64)).take 64) 64,SV)else
 bif cmd==2 then(true,M,SV.take (SA*64)++(M.data.drop (a/64*64)).take 64++SV.drop (SA*64+64))else(false,M,SV)
section
attribute [local irreducible] UL bM
abbrev ri(b:Nat)(p m:Int):bH:=row b [.w p,.w m] 193
abbrev NQ(b:Nat)(t:Int):bH:=row b [.w t] 297
abbrev b8(A:Oa)(c:Nat)(l:Li):bH:=sl .u8 5 A (J l) c l
abbrev yV(b:Nat)(Ao:Oa)(no co:Nat)(Ai:Oa)(ni ci:Nat):bH:=row b [.slice Ao no co,.slice Ai ni ci] 196
abbrev Ns(b bd:Nat):bH:=row b [.slice (sA bd) 1024 1024] 238
abbrev FO(bd:Nat)(l:Li):bH:=sl .u8 5 (sA bd) 1024 1024 l
theorem disk_rd{w:World}{bk SA:Nat}{SV:Li}(h:UJ w 1 (sA bk) 1024 1024 (ints .u8 SV))(hs:SA<16):Rd w .u8 (some ⟨bk,SA*64,none⟩) 64 (1024 - SA*64) ((SV.drop (SA*64)).take 64):=by
 have h1:=h.cut (lo:=SA*64) (hi:=SA*64+64) O O;rw[if_neg O,Option.map_some,Addr.add_lit,Nat.mul_one,bA,iO,nH,show SA*64+64 - SA*64=64 by omega,List.drop_take,show SA*64+64 - SA*64=64 by omega]at h1;exact h1
structure qK where
 bs:Nat
 bi:Nat
 bti:Nat
 bcn:Nat
 bdr:Nat
 bdk:Nat
def iV(a:Nat):Int:=V9 .u32 ((a:Int) - 32768)
def cz(d:Un)(k count:Int):(Int×Bool)×Un:=
 bif k==0 then((d.SU,true),d)else bif k==4 then((d.mask,true),d)else bif k==8 then((d.timer,true),d)else bif k==12 then((V9 .u32 count,true),d)else
 bif k==16 then((0,true),d)else bif k==40 then((0,true),d)else bif k==20 then((gB d.inp 0,true),{d with inp:=d.inp.tail})else bif k==24 then(((J d.inp:Int),true),d)else
 bif k==32 then(((d.SA:Int),true),d)else bif k==36 then(((d.place:Int),true),d)else bif k==44 then((d.status,true),d)else((0,false),d)
def df(n:Nat)(M:Uy)(d:Un)(v:Nat):Uy×Un:=
 ((dL n M d.SV d.SA d.place v).2.1,{d with SV:=(dL n M d.SV d.SA d.place v).2.2,status:=bif(dL n M d.SV d.SA d.place v).1 then 0 else 1,SU:=bits .or .u32 d.SU (kG [2])})
def bQ(n:Nat)(M:Uy)(d:Un)(k:Int)(v:Nat):Bool×Uy×Un:=
 bif k==0 then(true,M,{d with SU:=bits .andNot .u32 d.SU v})else bif k==4 then(true,M,{d with mask:=bits .and .u32 v 255})else bif k==8 then(true,M,{d with timer:=v})else
 bif k==16 then(true,M,{d with out:=d.out++[V9 .u8 v]})else bif k==32 then(true,M,{d with SA:=v})else bif k==36 then(true,M,{d with place:=v})else
 bif k==40 then(true,df n M d v)else bif k==12 then(true,M,d)else bif k==20 then(true,M,d)else bif k==24 then(true,M,d)else bif k==44 then(true,M,d)else(false,M,d)
abbrev Mx(D:qK)(bm:Nat)(d:Un):bH:=row D.bs [.p D.bi,.p D.bti,.p D.bcn,.p D.bdr,.p bm,.w (d.SA:Int),.w (d.place:Int),.w d.status] 101
abbrev lJ(D:qK)(bm:Nat)(X:fv)(d:Un):List bH:=[Mx D bm d,ri D.bi d.SU d.mask,NQ D.bti d.timer,yV D.bcn X.Ao (J d.out) X.co X.Ai (J d.inp) X.ci,b8 X.Ao X.co d.out,b8 X.Ai X.ci d.inp,Ns D.bdr D.bdk,FO D.bdk d.SV]
def dj(r:Int):Int:=bif bits .and .u32 r 2147483648 !=0 then bits .or .u32 (bif r==0 then bits .or .u32 0 1 else 0) 2 else bif r==0 then bits .or .u32 0 1 else 0
def da(a b:Int)(up:Bool):Int:=bif decide (32<=b)then 0 else bif up then V9 .u32 (a*2^(min b.toNat IntKind.u32.bits))else a.fdiv (2^(min b.toNat IntKind.u32.bits))
def mb(a b r f:Int)(c:Bool)(o:Int):Int:=bif o !=0 then bits .or .u32 (bif c then bits .or .u32 f 4 else f) 8 else bif c then bits .or .u32 f 4 else f
def jV(a b:Int):Int:=mb a b 0 (dj (V9 .u32 (a - b))) (decide (a<b)) (bits .and .u32 (bits .and .u32 (bits .xor .u32 a b) (bits .xor .u32 a (V9 .u32 (a - b)))) 2147483648)
def nK(a b:Int):Int:=mb a b 0 (dj (V9 .u32 (a+b))) (decide (V9 .u32 (a+b)<a)) (bits .and .u32 (bits .and .u32 (bits .xor .u32 a (V9 .u32 (a+b))) (bits .xor .u32 b (V9 .u32 (a+b)))) 2147483648)
def zk(r:Int):Int×Int×Bool:=(r,dj r,true)
def gP(op a b:Int):Int×Int×Bool:=
 bif op==16 then(V9 .u32 (a+b),nK a b,true)else bif op==17 then(V9 .u32 (a - b),jV a b,true)else bif op==25 then(0,jV a b,true)else bif op==18 then zk (bits .and .u32 a b)else bif op==19 then zk (bits .or .u32 a b)else bif op==20 then zk (bits .xor .u32 a b)else bif op==21 then zk (da a b true)else bif op==22 then zk (da a b false)else bif op==23 then zk (V9 .u32 (a*b))else bif op==24 then(bif b==0 then(0,0,false)else zk (V9 .u32 (a.tdiv b)))else(0,0,false)
def cZ(op f:Int):Bool×Bool:=bif op==33 then(bits .and .u32 f 1 !=0,true)else bif op==34 then(bits .and .u32 f 1==0,true)else bif op==35 then(bits .and .u32 f 4 !=0,true)else bif op==36 then(bits .and .u32 f 2 !=0,true)else bif op==37 then(bits .and .u32 f 8 !=0,true)else(false,false)
def jC(b:Int):Int:=V9 .u32 (V9 .i32 (IntKind.i8.wrap b))
def qe(s:St)(q:(Nat×Nat)×(Nat×Nat)):Int:=
 bif decide ((J s.d:Int)<(q.1.1:Int))||decide ((J s.r:Int)<(q.2.1:Int))then 3 else
 bif decide (16<(J s.d:Int) - (q.1.1:Int)+(q.1.2:Int))||decide (16<(J s.r:Int) - (q.2.1:Int)+(q.2.2:Int))then 4 else 0
abbrev Ve(br bu:Nat)(D:qK):IP:=⟨br,some ⟨bu,0,none⟩,some ⟨D.bs,0,none⟩⟩
def gZ(n:Nat)(M:Uy)(a:Nat):Int×Bool:=bif decide (a+4<=n*64)then(kY M.data a,true)else(0,false)
theorem Ei(L:ez)(M:Uy)(a:Nat):Cg L M a= .tuple #[.w (gZ L.n M a).1,.bool (gZ L.n M a).2]:=by
 unfold Cg gZ;cases decide (a+4<=L.n*64)<;>rfl
end
end Go.Ink
namespace Go.Ink
open List renaming length→J, replicate→R9
open IntKind renaming wrap→V9
open Go.RowKit Go.Proofs.Tryz
abbrev St.S5(s:St)(c:Int):St:=⟨s.pc,s.d,s.r,s.flags,s.Sy,s.SJ,s.ie,s.root,s.vec,s.epc,s.SB,s.addr,s.SO,s.eie,c,s.halted⟩
abbrev St.halt(s:St):St:=⟨s.pc,s.d,s.r,s.flags,s.Sy,s.SJ,s.ie,s.root,s.vec,s.epc,s.SB,s.addr,s.SO,s.eie,s.count,true⟩
theorem St.T5(s:St)(reg v:Int):(s.set reg v).1.d=s.d/\(s.set reg v).1.r=s.r:=by
 unfold St.set
 repeat (refine bJ (λq:St×Bool=>q.1.d=s.d/\q.1.r=s.r) ⟨I,I⟩ ?_)
 grind
section
attribute [local irreducible] UL bM
structure Wn where
 s:St
 TH:Bool
 device:Bool
 SC:List Int
abbrev St.next(s:St):St:=s.S5 (V9 .u64 (s.count+1))
theorem PD(op f:Int)(h:(cZ op f).2=false):(cZ op f).1=false:=by
 grind [cZ]
variable{s:St}
theorem Dh{q:(Nat×Nat)×(Nat×Nat)}(h:qe s q=0):q.1.1<=J s.d/\q.2.1<=J s.r:=by
 grind [qe]
abbrev ic(r:Wn)(X:eN)(Ap:Oa)(cp:Nat):List Value:=[.w r.s.pc,.slice X.Ad (J r.s.d) X.cd,.slice X.Ar (J r.s.r) X.cr,.w r.s.flags,.bool r.s.Sy,.bool r.s.SJ,.bool r.s.ie,.w r.s.root,.w r.s.vec,.w r.s.epc,.w r.s.SB,.w r.s.addr,.bool r.s.SO,.bool r.s.eie,.int .u64 r.s.count,.bool r.s.halted,.bool r.TH,.bool r.device,.slice Ap (J r.SC) cp]
abbrev Vq(bu bb:Nat)(L:ez)(D:qK)(Y:fv)(U:Uo)(d:Un):List bH:=uF bu bb L U++lJ D L.bm Y d
def Un.init(SV:Li):Un:=⟨0,0,0,[],[],oY SV,0,0,0⟩
abbrev oM(K:gb)(n:Nat)(data:Li)(tu:List Bool):List bH:=[row K.bm [.slice (sA K.bB) (n*64) (n*64),.slice (sA K.bT) n n] 89,sl .u8 5 (sA K.bB) (n*64) (n*64) data,slv 4 1 (sA K.bT) n n (lE tu)]
abbrev fw(bx bm:Nat)(T:List TE):bH:=row bx (.p bm::dC T) 95
abbrev eW(b bm bd:Nat)(Y:fv)(d:Un):List bH:=[row b [.p bm,.w d.SU,.w d.mask,.w d.timer,.slice Y.Ao (J d.out) Y.co,.slice Y.Ai (J d.inp) Y.ci,.slice (sA bd) 1024 1024,.w (d.SA:Int),.w (d.place:Int),.w d.status] 103,b8 Y.Ao Y.co d.out,V6 Y.Ai (J d.inp) Y.ci (ints .u8 d.inp),FO bd d.SV]
variable{l:Li}
theorem Mi(h:UO l):UO (oY l):=λx hx=>by
 rcases aK.1 hx with hx|hx
 .exact h x hx
 grind
theorem vS(w:World)(k:IntKind):Rd w k none 0 0 []:=⟨I,by simp,by simp,by simp,by simp⟩
theorem u0:u32 0:=⟨by decide,by decide⟩
end
end Go.Ink
