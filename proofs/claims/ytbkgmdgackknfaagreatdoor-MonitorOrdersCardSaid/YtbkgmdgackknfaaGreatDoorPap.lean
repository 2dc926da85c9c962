/- Lemmas. -/
import Derived.Test.YtbkgmdgackknfaaGreatDoorPao
set_option linter.unusedSimpArgs false
set_option linter.unusedVariables false
set_option maxRecDepth 100000
set_option maxHeartbeats 4000000
namespace Go.Ink
open Go.RowKit Go.Proofs.Tryz
theorem m8{w0:World}{S:List Nat}{cs:List bC}{e sz n c o bb:Nat}{xs vs:List Value}(hc:Has cs (slv e sz (sA bb) n c xs))(hv:∀i v,vs[i]? =some v->xs[o+i]? =some v):∀w,Inv w0 S cs w->cells (ez ⟨bb,o,none⟩ 0 vs) w:=λw hi z hz=>by
 obtain⟨j,h1,h2⟩:=gN hz;have:=(hi.rd hc).at_ _ rfl (o+j) z.2 (hv j z.2 h1)
 grind [Addr.add_lit]
theorem qX{α:Type}{l:List α}{k:Nat}{x:α}(h:l[k]? =some x):l.drop k=x::l.drop (k+1):=by
 grind [List.getElem?_eq_some_iff,List.drop_eq_getElem_cons]
theorem qT{α:Type}{f:α->List Value}{sz:Nat}(hf:∀a,(f a).length=sz):∀(l:List α) (i:Nat),(l.flatMap f).take (i*sz)=(l.take i).flatMap f
 |[],i=>by simp
 |x::l,0=>by simp
 |x::l,i+1=>by
  rw[List.flatMap_cons,List.take_succ_cons,List.flatMap_cons,<-qT hf l i,show(i+1)*sz=(f x).length+i*sz by grind,List.take_length_add_append]
theorem Cs{α:Type}{f:α->List Value}{sz:Nat}(hf:∀a,(f a).length=sz):∀(l:List α) (i:Nat),(l.flatMap f).drop (i*sz)=(l.drop i).flatMap f
 |[],i=>by simp
 |x::l,0=>by simp
 |x::l,i+1=>by
  rw[List.flatMap_cons,List.drop_succ_cons,<-Cs hf l i,show(i+1)*sz=(f x).length+i*sz by grind,List.drop_length_add_append]
theorem Ab{α:Type}{f:α->List Value}{sz:Nat}(hf:∀a,(f a).length=sz){l:List α}{i:Nat}{x:α}(hi:i<l.length):(l.flatMap f).take (i*sz)++f x++(l.flatMap f).drop (i*sz+sz)=(l.set i x).flatMap f:=by
 rw[qT hf,show i*sz+sz=(i+1)*sz by grind,Cs hf,List.set_eq_take_append_cons_drop,if_pos hi,List.flatMap_append,List.flatMap_cons,aw]
def I0(o:Option Nat):Int:=match o with|none=> -1|some j=>(j:Int)
theorem FT{o:Option Nat}(h:(I0 o== -1)=true):o=none:=by
 cases o with
 |none=>rfl
 |some j=>grind [I0]
theorem FS{o:Option Nat}(h:(I0 o== -1)=false):∃j,o=some j:=by
 cases o with
 |none=>simp[I0]at h
 |some j=>grind
theorem Cu{α:Type}{D:α->Bool}:∀{l:List α},l.findIdx? D=none->l.filter (λx=> !D x)=l/\(l.filter D).length=0
 :=by simp_all
theorem sk{α:Type}{D:α->Bool}:∀{l:List α} {i:Nat},l.findIdx? D=some i->i<l.length/\l.take i++(l.drop (i+1)).filter (λx=> !D x)=l.filter (λx=> !D x)/\1+((l.drop (i+1)).filter D).length=(l.filter D).length
 |[],i,h=>by simp at h
 |x::l,i,h=>by
  rw[List.findIdx?_cons]at h;cases hd:D x with
  |true=>
   grind
  |false=>
   rw[hd]at h;simp only[Bool.false_eq_true,if_false,Option.map_eq_some_iff]at h;obtain⟨j,hj,rfl⟩:=h;obtain⟨h1,h2,h3⟩:=sk hj
   grind
def idxN(n:Nat)(o:Option Nat):Nat:=match o with|none=>n|some i=>i+1
theorem qj{α β:Type}{l:List α}{j:Nat}{x:α}(hx:l[j]? =some x)(f:β->α->β)(b:β):(l.take (j+1)).foldl f b=f ((l.take j).foldl f b) x:=by
 grind [List.getElem?_eq_some_iff,List.take_succ_eq_append_getElem]
structure BA where
 b:Blk
 A:Option Addr
 c:Nat
def BA.cells(x:BA):List Value:=[.w x.b.key.1,.w x.b.key.2,.slice x.A (cE x.b.code).length x.c,.i x.b.count]
abbrev BA.key(x:BA):Ky:=x.b.key
def bZ(q:Ky):List Value:=[.w q.1,.w q.2]
theorem nM(x:BA):∀u∈x.cells,u.oneCell'=true:=λu h=>by
 simp only[BA.cells,aG,aS,or_false]at h;rcases h with rfl|rfl|rfl|rfl<;>rfl
theorem vL(x:Ky):∀u∈bZ x,u.oneCell'=true:=λu h=>by
 simp only[bZ,aG,aS,or_false]at h;rcases h with rfl|rfl<;>rfl
section
attribute [local irreducible] OpY bH
theorem Lx{ρ:Type}(Y:ρ->bC)(ok:ρ->Prop)(step:ρ->BA->ρ)(D:BA->Bool)(f:FuncId)(caps:List Value)(HF:∀args w,(callFunc f args).run prog w= .ok (.enter f args) w)(l:List BA)(hl:l.length<=1000000)
  (HC:∀(r:ρ) (x:BA) (w:World),ok r->x∈l->Inv w (bD [Y r]) [Y r] w->Ctr prog f ([]++[.agg (BA.cells x).toArray]++caps) w [Y r] (λv cs=>v= .bool (D x)/\cs=[Y (step r x)]/\ok (step r x)))
  (A:Option Addr) (c:Nat) (r0:ρ) (hok:ok r0) (w:World) (hi:Inv w (bD [slv 202 4 A l.length c (l.flatMap BA.cells),Y r0]) [slv 202 4 A l.length c (l.flatMap BA.cells),Y r0] w):
  Ctr prog 128 [.slice A l.length c,.func (.func f) #[] caps.toArray] w [slv 202 4 A l.length c (l.flatMap BA.cells),Y r0] (λv cs=>∃r',v= .i (I0 (l.findIdx? D))/\r'=(l.take (idxN l.length (l.findIdx? D))).foldl step r0/\ok r'/\cs=[slv 202 4 A l.length c (l.flatMap BA.cells),Y r']):=by
 refine Zfn func128 ntmps128 hi ?_;refine iT ?_;refine bN (λq:Nat×ρ=>[(0,.slice A l.length c),(1,.func (.func f) #[] caps.toArray),(7,.i (l.length:Int)),(8,.i (q.1:Int))]) (λq=>[slv 202 4 A l.length c (l.flatMap BA.cells),Y q.2]) (λq=>(q.1<=l.length/\q.2=(l.take q.1).foldl step r0/\ok q.2)/\l.findIdx? D=((l.drop q.1).findIdx? D).map (· +q.1)) (λq=>l.length - q.1) (⟨0,r0⟩) ?_ ?_ ?_ ?_
 .simp_all
 .exact Zwk
 .exact Zu
 rintro⟨j,r⟩ ⟨⟨hj,hr,hrk⟩,hf⟩;dsimp only at hj hr hrk hf|-;refine Zw6 ?_ ?_<;>intro hc2
 .simp only[ae]at hc2;have hjl:j<l.length:=Wq1;obtain⟨bs,rfl⟩:=dO (hi.get (show Has _ (slv 202 4 A l.length c (l.flatMap BA.cells))from Zh)) Wq1;obtain⟨x,hx⟩:∃x,l[j]? =some x:=⟨_,aa hjl⟩;rw[qX hx,List.findIdx?_cons]at hf;refine sx ?_;refine Zy (bV (bb:=bs) (o:=0) (n:=l.length) (c:=c) (j:=j) (sz:=4) (r:=j*4) rfl Zrf (Zv rfl) (Zv rfl) Zrf Wq2 Wq1) ?_;refine dK (bP (vs:=BA.cells x) Zrf Zrf Zv0) (m8 Zh (λi v hiv=>da (f:=BA.cells) Zrf hx hiv)) rfl (QF ?_);rintro _ _ ⟨_,⟨rfl,rfl,hrk2⟩,rfl⟩;obtain⟨r2,hr2⟩:=Zgn (step r x);rw[hr2]at hrk2|-;have hr3:r2=(l.take (j+1)).foldl step r0:=(by rw[<-hr2,hr,qj hx]);refine Z_2 ?_;refine ZW ?_ ?_<;>intro hc4
  .rw[hc4,if_pos rfl]at hf;have hf:l.findIdx? D=some j:=bR;rw[hf];refine fD ?_;refine bG [slv 202 4 (sA bs) l.length c (l.flatMap BA.cells),Y r2] Zj (Zrb ([_,_]) ?_);exact⟨r2,rfl,hr3,hrk2,rfl⟩
  rw[hc4,if_neg cH]at hf;refine gh ?_;refine bJ ((⟨j+1,r2⟩:Nat×ρ)) ?_ ?_ ?_
  .exact⟨⟨⟨by omega,hr3,hrk2⟩,by dsimp only;rw[hf,Option.map_map];congr 1;grind⟩,by omega⟩
  .exact Zwk
  exact Zj
 simp only[ac]at hc2;obtain rfl:j=l.length:=Wq1;exact Wq297
theorem delB_ok{ρ:Type}(Y:ρ->bC)(ok:ρ->Prop)(step:ρ->BA->ρ)(D:BA->Bool)(f:FuncId)(caps:List Value)(HF:∀args w,(callFunc f args).run prog w= .ok (.enter f args) w)(l:List BA)(hl:l.length<=1000000)
  (HC:∀(r:ρ) (x:BA) (w:World),ok r->x∈l->Inv w (bD [Y r]) [Y r] w->Ctr prog f ([]++[.agg (BA.cells x).toArray]++caps) w [Y r] (λv cs=>v= .bool (D x)/\cs=[Y (step r x)]/\ok (step r x)))
  (A:Option Addr) (c:Nat) (r0:ρ) (hok:ok r0) (w:World) (hi:Inv w (bD [slv 202 4 A l.length c (l.flatMap BA.cells),Y r0]) [slv 202 4 A l.length c (l.flatMap BA.cells),Y r0] w):
  Ctr prog 112 [.slice A l.length c,.func (.func f) #[] caps.toArray] w [slv 202 4 A l.length c (l.flatMap BA.cells),Y r0] (λv cs=>v= .slice A (l.filter λx=> !D x).length c/\cs=[slv 202 4 A (l.filter λx=> !D x).length c ((l.filter λx=> !D x).flatMap BA.cells),Y (l.foldl step r0)]):=by
 have HI:=Lx Y ok step D f caps HF l hl HC A c r0 hok;have hcap:=(hi.rd (.head (slv 202 4 A l.length c (l.flatMap BA.cells)) _)).cap;have hfn:=Cu (D:=D) (l:=l);have hfs:=λi=>sk (D:=D) (l:=l) (i:=i)
 obtain⟨o,ho⟩:=Zgn (l.findIdx? D);rw[ho]at HI hfn hfs;refine Zfn func112 ntmps112 hi ?_;refine Z_9 ?_;refine dz ([slv 202 4 A l.length c (l.flatMap BA.cells),Y r0]) (λw hi hin=>HI w hin) ?_;rintro _ _ ⟨r1,rfl,hr1,hok1,rfl⟩;refine pV ?_ ?_<;>intro hc2
 .obtain rfl:=FT hc2;obtain⟨hf1,hf2⟩:=hfn rfl;refine Z_8 ?_;refine Zrb ([_,_]) ?_;rw[hf1];have hr1:r1=(l.take l.length).foldl step r0:=hr1;rw[bl]at hr1;rw[<-hr1];exact fy
 obtain⟨i0,rfl⟩:=FS hc2;obtain⟨hf1,hf2,hf3⟩:=hfs i0 rfl;obtain⟨bs,rfl⟩:=dO (hi.get (show Has _ (slv 202 4 A l.length c (l.flatMap BA.cells))from Zh)) Wq1;refine Z_6 ?_;refine Zy (ef (Zv rfl) (Zv rfl) (show _=((i0+1:Nat):Int)from by rw[show I0 (some i0)=(i0:Int)from rfl,bA];omega)) ?_;refine Z_4 ?_;refine bN (λq:(Nat×Nat)×List BA×ρ=>[(0,.slice (sA bs) l.length c),(1,.func (.func f) #[] caps.toArray),(5,.i (q.1.1:Int)),(6,.i (q.1.2:Int))]) (λq=>[slv 202 4 (sA bs) l.length c (q.2.1.flatMap BA.cells),Y q.2.2]) (λq=>(q.2.2=(l.take q.1.2).foldl step r0/\ok q.2.2)/\q.1.1<q.1.2/\q.1.2<=l.length/\q.2.1.length=l.length/\q.2.1.drop q.1.2=l.drop q.1.2/\q.2.1.take q.1.1++(l.drop q.1.2).filter (λx=> !D x)=l.filter (λx=> !D x)) (λq=>l.length - q.1.2) (⟨(i0,i0+1),l,r1⟩) ?_ ?_ ?_ ?_
 .exact⟨⟨hr1,hok1⟩,Nat.lt_succ_self _,by grind,rfl,rfl,hf2⟩
 .exact Zwk
 .exact Zu
 rintro⟨⟨i,j⟩,V,r⟩ ⟨⟨hr,hrk⟩,hij,hj,hV,hVd,hT⟩;dsimp only at hr hrk hij hj hV hVd hT|-;refine Zw9 ?_ ?_<;>intro hc5
 .simp only[ae]at hc5;have hjl:j<l.length:=Wq1;obtain⟨x,hx⟩:∃x,l[j]? =some x:=⟨_,aa hjl⟩;have hVx:V[j]? =some x:=(by have:=congrArg (λz=>z[0]?) hVd;grind);rw[qX hx]at hT;rw[qX hx,qX hVx,List.cons.injEq]at hVd;rw[List.filter_cons]at hT;refine Z_8 ?_;refine Zy (bV (bb:=bs) (o:=0) (n:=l.length) (c:=c) (j:=j) (sz:=4) (r:=j*4) rfl Zrf (Zv rfl) (Zv rfl) Zrf Wq2 Wq1) ?_;refine dK (bP (vs:=BA.cells x) Zrf Zrf Zv0) (m8 Zh (λi v hiv=>da (f:=BA.cells) Zrf hVx hiv)) rfl ?_;refine ZN λb7=>?_
  refine eE (cS Zrf rfl rfl (nM x) Za oV) ?_;rintro _ _ ⟨rfl,rfl⟩;refine Z_6 ?_;refine QF ?_;rintro _ _ ⟨_,⟨rfl,rfl,hrk2⟩,rfl⟩;obtain⟨r2,hr2⟩:=Zgn (step r x);rw[hr2]at hrk2|-;have hr3:r2=(l.take (j+1)).foldl step r0:=(by rw[<-hr2,hr,qj hx]);refine Zw3 ?_ ?_<;>intro hc8
  .have hD:D x=false:=bR;rw[hD]at hT;simp only[Bool.not_false,if_true]at hT;refine Z_5 ?_;refine Zy (bV (bb:=bs) (o:=0) (n:=l.length) (c:=c) (j:=i) (sz:=4) (r:=i*4) rfl Zrf (Zv rfl) (Zv rfl) Zrf Wq2 Wq1) ?_;refine eE (uU (sz:=4) (n:=l.length) (vs:=BA.cells x) Zrf rfl rfl (nM x) Za rfl Wq1) ?_;rintro _ _ ⟨rfl,rfl⟩;rw[Ab (f:=BA.cells) (sz:=4) Zrf (show i<V.length by omega)];refine Z_4 ?_;refine ri ?_;refine Z_6 ?_;refine Wq6 ?_;refine bJ ((⟨(i+1,j+1),V.set i x,r2⟩:(Nat×Nat)×List BA×ρ)) ?_ ?_ ?_
   .exact Wq228
   .exact Zwk
   exact Zj
  have hD:D x=true:=bR;rw[hD]at hT;simp only[Bool.not_true,Bool.false_eq_true,if_false]at hT;refine gv ?_;refine bJ ((⟨(i,j+1),V,r2⟩:(Nat×Nat)×List BA×ρ)) ?_ ?_ ?_
  .grind
  .exact Zwk
  exact Zj
 simp only[ac]at hc5;obtain rfl:j=l.length:=Wq1;rw[List.drop_length]at hT;rw[List.filter_nil,az]at hT;rw[bl]at hr;have hil:(l.filter λx=> !D x).length=i:=bR;refine Z_9 ?_;refine Zy (lV (bb:=bs) (o:=0) (n:=l.length) (c:=c) (lo:=i) (hi:=l.length) (r:=0+i*4) (sz:=4) rfl Zrf (Zv rfl) (.inr ⟨_,_,rfl,(Zv rfl)⟩) (.inl ⟨rfl,rfl⟩) Wq1 Wq1 Wq1 Wq1) ?_;refine Jc (c:=slv 202 4 (sA bs) l.length c (V.flatMap BA.cells)) (c':=slv 202 4 (sA bs) i c ((V.flatMap BA.cells).take (i*4))) Za rfl (Fb Wq1) ?_
 refine eE (Bu rfl Za rfl Zrf (sz:=4) rfl rfl Wq7 (by intro u hu;simp only[aG,aS,or_false]at hu;rcases hu with rfl|rfl|rfl|rfl<;>rfl) Wq1 Wq1) ?_;rintro _ _ ⟨rfl,rfl⟩;refine Z_6 ?_;refine Zy (fH i rfl Zrf (Zv rfl) (Zv rfl) AH Wq2) ?_;refine Z_4 ?_;refine Zrb ([_,_]) ?_;rw[hil,qT (f:=BA.cells) (sz:=4) Zrf,hT,<-hr];exact fy
theorem idxK_ok{ρ:Type}(Y:ρ->bC)(ok:ρ->Prop)(step:ρ->Ky->ρ)(D:Ky->Bool)(f:FuncId)(caps:List Value)(HF:∀args w,(callFunc f args).run prog w= .ok (.enter f args) w)(l:List Ky)(hl:l.length<=1000000)
  (HC:∀(r:ρ) (x:Ky) (w:World),ok r->x∈l->Inv w (bD [Y r]) [Y r] w->Ctr prog f ([]++[.agg (bZ x).toArray]++caps) w [Y r] (λv cs=>v= .bool (D x)/\cs=[Y (step r x)]/\ok (step r x)))
  (A:Option Addr) (c:Nat) (r0:ρ) (hok:ok r0) (w:World) (hi:Inv w (bD [slv 164 2 A l.length c (l.flatMap bZ),Y r0]) [slv 164 2 A l.length c (l.flatMap bZ),Y r0] w):
  Ctr prog 147 [.slice A l.length c,.func (.func f) #[] caps.toArray] w [slv 164 2 A l.length c (l.flatMap bZ),Y r0] (λv cs=>∃r',v= .i (I0 (l.findIdx? D))/\r'=(l.take (idxN l.length (l.findIdx? D))).foldl step r0/\ok r'/\cs=[slv 164 2 A l.length c (l.flatMap bZ),Y r']):=by
 refine Zfn func147 ntmps147 hi ?_;refine iT ?_;refine bN (λq:Nat×ρ=>[(0,.slice A l.length c),(1,.func (.func f) #[] caps.toArray),(7,.i (l.length:Int)),(8,.i (q.1:Int))]) (λq=>[slv 164 2 A l.length c (l.flatMap bZ),Y q.2]) (λq=>(q.1<=l.length/\q.2=(l.take q.1).foldl step r0/\ok q.2)/\l.findIdx? D=((l.drop q.1).findIdx? D).map (· +q.1)) (λq=>l.length - q.1) (⟨0,r0⟩) ?_ ?_ ?_ ?_
 .simp_all
 .exact Zwk
 .exact Zu
 rintro⟨j,r⟩ ⟨⟨hj,hr,hrk⟩,hf⟩;dsimp only at hj hr hrk hf|-;refine Zw6 ?_ ?_<;>intro hc2
 .simp only[ae]at hc2;have hjl:j<l.length:=Wq1;obtain⟨bs,rfl⟩:=dO (hi.get (show Has _ (slv 164 2 A l.length c (l.flatMap bZ))from Zh)) Wq1;obtain⟨x,hx⟩:∃x,l[j]? =some x:=⟨_,aa hjl⟩;rw[qX hx,List.findIdx?_cons]at hf;refine sx ?_;refine Zy (bV (bb:=bs) (o:=0) (n:=l.length) (c:=c) (j:=j) (sz:=2) (r:=j*2) rfl Zrf (Zv rfl) (Zv rfl) Zrf Wq2 Wq1) ?_;refine dK (bP (vs:=bZ x) Zrf Zrf Zv0) (m8 Zh (λi v hiv=>da (f:=bZ) Zrf hx hiv)) rfl (QF ?_);rintro _ _ ⟨_,⟨rfl,rfl,hrk2⟩,rfl⟩;obtain⟨r2,hr2⟩:=Zgn (step r x);rw[hr2]at hrk2|-;have hr3:r2=(l.take (j+1)).foldl step r0:=(by rw[<-hr2,hr,qj hx]);refine Z_2 ?_;refine ZW ?_ ?_<;>intro hc4
  .rw[hc4,if_pos rfl]at hf;have hf:l.findIdx? D=some j:=bR;rw[hf];refine fD ?_;refine bG [slv 164 2 (sA bs) l.length c (l.flatMap bZ),Y r2] Zj (Zrb ([_,_]) ?_);exact⟨r2,rfl,hr3,hrk2,rfl⟩
  rw[hc4,if_neg cH]at hf;refine gh ?_;refine bJ ((⟨j+1,r2⟩:Nat×ρ)) ?_ ?_ ?_
  .exact⟨⟨⟨by omega,hr3,hrk2⟩,by dsimp only;rw[hf,Option.map_map];congr 1;grind⟩,by omega⟩
  .exact Zwk
  exact Zj
 simp only[ac]at hc2;obtain rfl:j=l.length:=Wq1;exact Wq297
theorem delK_ok{ρ:Type}(Y:ρ->bC)(ok:ρ->Prop)(step:ρ->Ky->ρ)(D:Ky->Bool)(f:FuncId)(caps:List Value)(HF:∀args w,(callFunc f args).run prog w= .ok (.enter f args) w)(l:List Ky)(hl:l.length<=1000000)
  (HC:∀(r:ρ) (x:Ky) (w:World),ok r->x∈l->Inv w (bD [Y r]) [Y r] w->Ctr prog f ([]++[.agg (bZ x).toArray]++caps) w [Y r] (λv cs=>v= .bool (D x)/\cs=[Y (step r x)]/\ok (step r x)))
  (A:Option Addr) (c:Nat) (r0:ρ) (hok:ok r0) (w:World) (hi:Inv w (bD [slv 164 2 A l.length c (l.flatMap bZ),Y r0]) [slv 164 2 A l.length c (l.flatMap bZ),Y r0] w):
  Ctr prog 130 [.slice A l.length c,.func (.func f) #[] caps.toArray] w [slv 164 2 A l.length c (l.flatMap bZ),Y r0] (λv cs=>v= .slice A (l.filter λx=> !D x).length c/\cs=[slv 164 2 A (l.filter λx=> !D x).length c ((l.filter λx=> !D x).flatMap bZ),Y (l.foldl step r0)]):=by
 have HI:=idxK_ok Y ok step D f caps HF l hl HC A c r0 hok;have hcap:=(hi.rd (.head (slv 164 2 A l.length c (l.flatMap bZ)) _)).cap;have hfn:=Cu (D:=D) (l:=l);have hfs:=λi=>sk (D:=D) (l:=l) (i:=i)
 obtain⟨o,ho⟩:=Zgn (l.findIdx? D);rw[ho]at HI hfn hfs;refine Zfn func130 ntmps130 hi ?_;refine Z_9 ?_;refine dz ([slv 164 2 A l.length c (l.flatMap bZ),Y r0]) (λw hi hin=>HI w hin) ?_;rintro _ _ ⟨r1,rfl,hr1,hok1,rfl⟩;refine pV ?_ ?_<;>intro hc2
 .obtain rfl:=FT hc2;obtain⟨hf1,hf2⟩:=hfn rfl;refine Z_8 ?_;refine Zrb ([_,_]) ?_;rw[hf1];have hr1:r1=(l.take l.length).foldl step r0:=hr1;rw[bl]at hr1;rw[<-hr1];exact fy
 obtain⟨i0,rfl⟩:=FS hc2;obtain⟨hf1,hf2,hf3⟩:=hfs i0 rfl;obtain⟨bs,rfl⟩:=dO (hi.get (show Has _ (slv 164 2 A l.length c (l.flatMap bZ))from Zh)) Wq1;refine Z_6 ?_;refine Zy (ef (Zv rfl) (Zv rfl) (show _=((i0+1:Nat):Int)from by rw[show I0 (some i0)=(i0:Int)from rfl,bA];omega)) ?_;refine Z_4 ?_;refine bN (λq:(Nat×Nat)×List Ky×ρ=>[(0,.slice (sA bs) l.length c),(1,.func (.func f) #[] caps.toArray),(5,.i (q.1.1:Int)),(6,.i (q.1.2:Int))]) (λq=>[slv 164 2 (sA bs) l.length c (q.2.1.flatMap bZ),Y q.2.2]) (λq=>(q.2.2=(l.take q.1.2).foldl step r0/\ok q.2.2)/\q.1.1<q.1.2/\q.1.2<=l.length/\q.2.1.length=l.length/\q.2.1.drop q.1.2=l.drop q.1.2/\q.2.1.take q.1.1++(l.drop q.1.2).filter (λx=> !D x)=l.filter (λx=> !D x)) (λq=>l.length - q.1.2) (⟨(i0,i0+1),l,r1⟩) ?_ ?_ ?_ ?_
 .exact⟨⟨hr1,hok1⟩,Nat.lt_succ_self _,by grind,rfl,rfl,hf2⟩
 .exact Zwk
 .exact Zu
 rintro⟨⟨i,j⟩,V,r⟩ ⟨⟨hr,hrk⟩,hij,hj,hV,hVd,hT⟩;dsimp only at hr hrk hij hj hV hVd hT|-;refine Zw9 ?_ ?_<;>intro hc5
 .simp only[ae]at hc5;have hjl:j<l.length:=Wq1;obtain⟨x,hx⟩:∃x,l[j]? =some x:=⟨_,aa hjl⟩;have hVx:V[j]? =some x:=(by have:=congrArg (λz=>z[0]?) hVd;grind);rw[qX hx]at hT;rw[qX hx,qX hVx,List.cons.injEq]at hVd;rw[List.filter_cons]at hT;refine Z_8 ?_;refine Zy (bV (bb:=bs) (o:=0) (n:=l.length) (c:=c) (j:=j) (sz:=2) (r:=j*2) rfl Zrf (Zv rfl) (Zv rfl) Zrf Wq2 Wq1) ?_;refine dK (bP (vs:=bZ x) Zrf Zrf Zv0) (m8 Zh (λi v hiv=>da (f:=bZ) Zrf hVx hiv)) rfl ?_;refine ZN λb7=>?_
  refine eE (cS Zrf rfl rfl (vL x) Za oV) ?_;rintro _ _ ⟨rfl,rfl⟩;refine Z_6 ?_;refine QF ?_;rintro _ _ ⟨_,⟨rfl,rfl,hrk2⟩,rfl⟩;obtain⟨r2,hr2⟩:=Zgn (step r x);rw[hr2]at hrk2|-;have hr3:r2=(l.take (j+1)).foldl step r0:=(by rw[<-hr2,hr,qj hx]);refine Zw3 ?_ ?_<;>intro hc8
  .have hD:D x=false:=bR;rw[hD]at hT;simp only[Bool.not_false,if_true]at hT;refine Z_5 ?_;refine Zy (bV (bb:=bs) (o:=0) (n:=l.length) (c:=c) (j:=i) (sz:=2) (r:=i*2) rfl Zrf (Zv rfl) (Zv rfl) Zrf Wq2 Wq1) ?_;refine eE (uU (sz:=2) (n:=l.length) (vs:=bZ x) Zrf rfl rfl (vL x) Za rfl Wq1) ?_;rintro _ _ ⟨rfl,rfl⟩;rw[Ab (f:=bZ) (sz:=2) Zrf (show i<V.length by omega)];refine Z_4 ?_;refine ri ?_;refine Z_6 ?_;refine Wq6 ?_;refine bJ ((⟨(i+1,j+1),V.set i x,r2⟩:(Nat×Nat)×List Ky×ρ)) ?_ ?_ ?_
   .exact Wq228
   .exact Zwk
   exact Zj
  have hD:D x=true:=bR;rw[hD]at hT;simp only[Bool.not_true,Bool.false_eq_true,if_false]at hT;refine gv ?_;refine bJ ((⟨(i,j+1),V,r2⟩:(Nat×Nat)×List Ky×ρ)) ?_ ?_ ?_
  .grind
  .exact Zwk
  exact Zj
 simp only[ac]at hc5;obtain rfl:j=l.length:=Wq1;rw[List.drop_length]at hT;rw[List.filter_nil,az]at hT;rw[bl]at hr;have hil:(l.filter λx=> !D x).length=i:=bR;refine Z_9 ?_;refine Zy (lV (bb:=bs) (o:=0) (n:=l.length) (c:=c) (lo:=i) (hi:=l.length) (r:=0+i*2) (sz:=2) rfl Zrf (Zv rfl) (.inr ⟨_,_,rfl,(Zv rfl)⟩) (.inl ⟨rfl,rfl⟩) Wq1 Wq1 Wq1 Wq1) ?_;refine Jc (c:=slv 164 2 (sA bs) l.length c (V.flatMap bZ)) (c':=slv 164 2 (sA bs) i c ((V.flatMap bZ).take (i*2))) Za rfl (Fb Wq1) ?_
 refine eE (Bu rfl Za rfl Zrf (sz:=2) rfl rfl Wq7 (by intro u hu;simp only[aG,aS,or_false]at hu;rcases hu with rfl|rfl<;>rfl) Wq1 Wq1) ?_;rintro _ _ ⟨rfl,rfl⟩;refine Z_6 ?_;refine Zy (fH i rfl Zrf (Zv rfl) (Zv rfl) AH Wq2) ?_;refine Z_4 ?_;refine Zrb ([_,_]) ?_;rw[hil,qT (f:=bZ) (sz:=2) Zrf,hT,<-hr];exact fy
structure LS where
 A:Option Addr
 c:Nat
 ks:List Ky
def LS.v(x:LS):Value:= .slice x.A x.ks.length x.c
def LS.zero:LS:=⟨none,0,[]⟩
def lkV(LK:List (Ky×LS)):List (Ky×Value):=LK.map λx=>(x.1,x.2.v)
structure CaX where
 ml:Nat
 Ac:Option Addr
 cc:Nat
 fl:Int
 LK:List (Ky×LS)
 Z:List BA
def BaSm(Z:List BA):Prop:=Z.length<=1000000/\∀x,x∈Z->x.b.code.length<=100000/\lj x.b.key
def lK(k:Ky)(x:LS):LS:=⟨x.A,x.c,x.ks.filter λq=> !(q==k)⟩
def gz(LK:List (Ky×LS))(k:Ky):List (Ky×LS):=(qp LK k).map λx=>(x.1,lK k x.2)
def DJ(k:Ky)(f:Bool)(x:Ky×LS):Ky×LS:=(x.1,bif f then lK k x.2 else x.2)
def prL(k:Ky)(F:List Bool)(L0:List (Ky×LS)):List (Ky×LS):=List.zipWith (DJ k) F L0
def itL(k:Ky)(F:List Bool)(L0:List (Ky×LS)):List (Bool×Ky×Value):=List.zipWith (λf x=>(f,x.1,(DJ k f x).2.v)) F L0
theorem Oe{α β:Type}(f:α->β)(L:List (Ky×α))(k:Ky):qp (L.map λx=>(x.1,f x.2)) k=(qp L k).map λx=>(x.1,f x.2):=by
 unfold qp;rw[j7 (key:=λx:Ky×α=>x.1) (λx:Ky×α=>(x.1,f x.2)) Zrf]
 grind [cL,ChangeMaps.map_eraseIdx]
theorem tW{α:Type}(L:List (Ky×α))(k:Ky):(qp L k).Sublist L:=by
 grind [qp,cL]
theorem B8(k:Ky):∀L0:List (Ky×LS),itL k (List.replicate L0.length false) L0=(lkV L0).map λx=>(false,x)
 |[]=>rfl
 |x::L0=>by
  show(false,x.1,(DJ k false x).2.v)::itL k (List.replicate L0.length false) L0=_;rw[B8 k L0]
  rfl
theorem BM(k:Ky):∀L0:List (Ky×LS),prL k (List.replicate L0.length false) L0=L0
 |[]=>rfl
 |x::L0=>by
  show DJ k false x::prL k (List.replicate L0.length false) L0=_;rw[BM k L0]
  rfl
theorem itL_at{k:Ky}{F:List Bool}{L0:List (Ky×LS)}{j:Nat}{q:Ky}{v:Value}(h:(itL k F L0)[j]? =some (false,q,v)):∃x,L0[j]? =some x/\F[j]? =some false/\q=x.1/\v=x.2.v:=by
 unfold itL at h;rw[List.getElem?_zipWith]at h;cases hf:F[j]? with
 |none=>grind
 |some f=>
  cases hx:L0[j]? with
  |none=>grind
  |some x=>
   rw[hf,hx]at h;simp only[aU,aX]at h;obtain⟨rfl,rfl,rfl⟩:=h;exact⟨x,rfl,rfl,rfl,rfl⟩
theorem De{α β γ:Type}(g:α->β->γ):∀(F:List α) (L:List β) (j:Nat) (a:α) (b:β),L[j]? =some b->List.zipWith g (F.set j a) L=(List.zipWith g F L).set j (g a b)
 |[],L,j,a,b,_=>by simp
 |f::F,[],j,a,b,h=>by simp at h
 |f::F,x::L,0,a,b,h=>by
  simp_all
 |f::F,x::L,j+1,a,b,h=>by
  show g f x::List.zipWith g (F.set j a) L=g f x::(List.zipWith g F L).set j (g a b);rw[De g F L j a b bR]
theorem Ll{k:Ky}:∀{F:List Bool} {L0:List (Ky×LS)},F.length=L0.length->(∀x,x∈itL k F L0->x.1=true)->prL k F L0=L0.map λx=>(x.1,lK k x.2)
 |[],[],_,_=>rfl
 |[],_::_,h,_=>by simp at h
 |_::_,[],h,_=>by simp at h
 |f::F,x::L0,h,ha=>by
  have hf:f=true:=ha (f,x.1,(DJ k f x).2.v) (List.mem_cons_self ..);subst hf;show DJ k true x::prL k F L0=_;rw[Ll bR (λy hy=>ha y (List.mem_cons_of_mem _ hy))]
  rfl
theorem itL_snd(k:Ky):∀(F:List Bool) (L0:List (Ky×LS)),(itL k F L0).map (·.2)=lkV (prL k F L0)
 :=by grind [itL,prL,lkV,DJ]
def Cw(F:List Bool):Nat:=(F.filter λf=> !f).length
theorem yl:∀{F:List Bool} {j:Nat},F[j]? =some false->Cw (F.set j true)<Cw F
 |[],j,h=>by simp at h
 |f::F,0,h=>by
  grind [Cw]
 |f::F,j+1,h=>by
  have:=yl (F:=F) (j:=j) bR
  grind [Cw]
theorem oo{α:Type}{l:List α}{j:Nat}{x:α}(h:l[j]? =some x):l.Perm (x::l.eraseIdx j):=by
 grind [List.getElem?_eq_some_iff,List.eraseIdx_eq_take_drop_succ,List.perm_middle,List.getElem_cons_drop,List.take_append_drop]
theorem tY{α:Type}{l:List α}{j:Nat}{x:α}(h:j<l.length):(l.set j x).Perm (x::l.eraseIdx j):=by
 grind [oo,List.getElem?_set_self,List.eraseIdx_set_eq]
theorem so{α:Type}{key:α->Ky}{k:Ky}{l:List α}{j:Nat}(h:cL key k l=some j):∃x,l[j]? =some x/\key x=k/\l.find? (λx=>key x==k)=some x:=by
 grind [ff,cL,List.getElem?_eq_getElem,List.findIdx?_eq_some_iff_getElem,List.find?_eq_some_iff_getElem]
theorem wc{α:Type}{key:α->Ky}{k:Ky}{l:List α}(h:cL key k l=none):l.find? (λx=>key x==k)=none:=by
 grind [ip]
section
variable {C:Cx} {Q:lS} {fr:Fr} {cs:List bC} {c:bC} {cin cin' rest r1:List bC} {e:Exit} {b r:Nat} {IL:List (Bool×Ky×Value)} {cur:Option (Ky×Value)}
theorem BK(hd:Del cs (bQ cin) rest)(hp:cin.Perm (c::cin'))(h:QOk C Q e fr (c::bQ cin'::rest)):QOk C Q e fr cs:=λa w hf hi=>h a w hf ((hi.perm hd.perm).S0 hp)
theorem kr(hd:Del cs (bQ cin) r1)(hd2:Del r1 c rest)(hp:cin'.Perm (c::cin))(h:QOk C Q e fr (bQ cin'::rest)):QOk C Q e fr cs:=λa w hf hi=>h a w hf (((hi.perm (hd.perm.trans (hd2.perm.cons _))).perm (List.Perm.swap ..)).Tk hp)
theorem mf(hd:Del cs (bQ cin) rest)(hs:cin'.Sublist cin)(h:QOk C Q e fr (bQ cin'::rest)):QOk C Q e fr cs:=λa w hf hi=>h a w hf ((hi.perm hd.perm).Tj hs)
theorem BL(hd:Del cs (itC b r IL cur) rest)(h:QOk C Q e fr (mpc b (IL.map (·.2))::rest)):QOk C Q e fr cs:=λa w hf hi=>h a w hf ((hi.perm hd.perm).itEnd)
theorem vP(w:World):Inv w [] [bQ []] w:=⟨cY.refl _ _,by simp[bD,bQ,exC,bC.bs],λc hc=>by
 rw[aB]at hc;subst hc;exact⟨(),trivial,by simp[bD],λc hc=>by cases hc⟩,λb hb=>by grind [bD,exC,bC.bs]⟩
theorem kt(h:QOk C Q e fr (cs++[bQ []])):QOk C Q e fr cs:=λa w hf hi=>h a w hf (hi.more (vP w))
theorem jS{ops:Array Oper}{l:List Oper}(h:WL C ops Q l fr (cs++[bQ []])):WL C ops Q l fr cs:=λa w hf hi=>h a w hf (hi.more (vP w))
end
abbrev lsC(x:LS):bC:=slv 164 2 x.A x.ks.length x.c (x.ks.flatMap bZ)
abbrev baC(x:BA):bC:=sl .u8 5 x.A (cE x.b.code).length x.c (cE x.b.code)
def lkC(LK:List (Ky×LS)):List bC:=LK.map λx=>lsC x.2
abbrev kyR(b:Nat)(k:Ky):bC:=row b (bZ k) 164
abbrev caR(bc:Nat)(r0 r1 r2 r3:Value):bC:=row bc [r0,r1,r2,r3] 195
abbrev blC(X:CaX):bC:=slv 202 4 X.Ac X.Z.length X.cc (X.Z.flatMap BA.cells)
abbrev caF(bc:Nat)(room:Int)(X:CaX):List bC:=[caR bc (.i room) (.slice X.Ac X.Z.length X.cc) (.map (some X.ml)) (.i X.fl),blC X,bQ (X.Z.map baC),mpc X.ml (lkV X.LK),bQ (lkC X.LK)]
theorem Kv(x:BA)(k:Ky)(bk:Nat)(w:World)(hi:Inv w (bD [kyR bk k]) [kyR bk k] w):
  Ctr prog 148 ([]++[.agg x.cells.toArray]++[.p bk]) w [kyR bk k] (λv cs=>v= .bool (x.key==k)/\cs=[kyR bk k]/\True):=by
 refine Zfn func148 ntmps148 hi ?_;refine Z_2 ?_;refine ZO λb2=>?_;refine Z_6 ?_;refine dK (bP (vs:=bZ x.b.key) Zrf Zrf Zv0) (cO Zh rfl) rfl (ZlR ?_);refine Zy (I7 vM (D9 x.b.key k) (Zv rfl) (Zv rfl)) ?_;refine Z_4 ?_;refine bG [kyR bk k] Zj (Zrb ([row _ _ _]) ?_);exact⟨rfl,rfl,trivial⟩
theorem wu(bc:Nat)(r0 r2 r3:Value)(Ac:Option Addr)(cc:Nat)(Z:List BA)(hZ:Z.length<=1000000)(k:Ky)(w:World)(hi:Inv w (bD [caR bc r0 (.slice Ac Z.length cc) r2 r3,slv 202 4 Ac Z.length cc (Z.flatMap BA.cells)]) [caR bc r0 (.slice Ac Z.length cc) r2 r3,slv 202 4 Ac Z.length cc (Z.flatMap BA.cells)] w):
  Ctr prog 132 [.p bc,.agg (bZ k).toArray] w [caR bc r0 (.slice Ac Z.length cc) r2 r3,slv 202 4 Ac Z.length cc (Z.flatMap BA.cells)] (λv cs=>v= .i (I0 (cL BA.key k Z))/\cs=[caR bc r0 (.slice Ac Z.length cc) r2 r3,slv 202 4 Ac Z.length cc (Z.flatMap BA.cells)]):=by
 refine Zfn func132 ntmps132 hi ?_;refine Z_2 ?_;refine ZO λb3=>?_;refine Z_9 ?_;refine Zy (lX rfl) ?_;refine dz ([slv 202 4 Ac Z.length cc (Z.flatMap BA.cells),kyR b3 k]) (λw hi hin=>Lx (λ_:Unit=>kyR b3 k) (λ_=>True) (λ_ _=>()) (λx=>x.key==k) 148 [.p b3] (λ_ _=>rfl) Z hZ (λ_ x w _ _ hin=>Kv x k b3 w hin) Ac cc () trivial w hin) ?_;rintro _ _ ⟨_,rfl, -, -,rfl⟩;refine Z_4 ?_;refine bG [caR bc r0 (.slice Ac Z.length cc) r2 r3,slv 202 4 Ac Z.length cc (Z.flatMap BA.cells)] Zj (Zrb ([_,_]) ?_);exact fy
def FindK(o:Option BA)(F:List bC)(v:Value)(cs:List bC):Prop:=match o with
 |none=>v= .tuple #[.agg #[.w 0,.w 0,.slice none 0 0,.i 0],.bool false]/\cs=F
 |some x=>∃A' c',v= .tuple #[.agg (BA.cells ⟨x.b,A',c'⟩).toArray,.bool true]/\cs=baC ⟨x.b,A',c'⟩::F
theorem Gk(bc:Nat)(room:Int)(X:CaX)(hS:BaSm X.Z)(k:Ky)(w:World)(hi:Inv w (bD (caF bc room X)) (caF bc room X) w):
  Ctr prog 118 [.p bc,.agg (bZ k).toArray] w (caF bc room X) (λv cs=>FindK (X.Z.find? λx=>x.key==k) (caF bc room X) v cs):=by
 have hZ:=hS.1;have HP:=wu bc (.i room) (.map (some X.ml)) (.i X.fl) X.Ac X.cc X.Z hZ k;obtain⟨o,ho⟩:=Zgn (cL BA.key k X.Z);rw[ho]at HP;refine Zfn func118 ntmps118 hi ?_;refine Z_2 ?_;refine ZO λb3=>?_;refine ZN λb4=>?_
 refine Z_7 ?_;refine ZcM ([caR bc (.i room) (.slice X.Ac X.Z.length X.cc) (.map (some X.ml)) (.i X.fl),blC X]) (λw hi hin=>HP w hin) ?_;refine pV ?_ ?_<;>intro hc2
 .obtain rfl:o=none:=(by cases o with|none=>rfl|some j=>(have h9:((j:Nat):Int)<0:=of_decide_eq_true hc2;omega));rw[wc ho];refine Z_2 ?_;refine Zy (iF (vs:=[Value.w 0,.w 0,.slice none 0 0,.i 0]) Zk (.inl ⟨_,rfl,rfl⟩)) ?_;refine mC ?_;exact bG (row b4 _ _::caF bc room X) Zj (ph (cs':=caF bc room X) (.inl rfl) (List.Sublist.cons _ (aR _)) rfl rfl rfl Zh Zrf Zrf fy)
 obtain⟨j,rfl⟩:∃j,o=some j:=(by cases o with|none=>simp[I0]at hc2|some j=>grind);obtain⟨x,hx,hxk,hxf⟩:=so ho;rw[hxf];have hjl:=(aj.1 hx).1;obtain⟨bs,hbs⟩:=dO (hi.get (.tail _ (.head (blC X) _))) (show 0<X.Z.length by omega);have hxr:∀w0 S cs w,Ink.Inv w0 S cs w->Has cs (bQ (X.Z.map baC))->Rd w .u8 x.A (cE x.b.code).length x.c (cE x.b.code):=(λw0 S cs w h hh=>dp (h.joinGet hh (bn.2 ⟨x,ak hx,rfl⟩)));have hxl:(cE x.b.code).length<=140737488355328:=(by rw[jd];have:=(hS.2 x (ak hx)).1;omega);refine Z_9 ?_;refine Zy (bV (bb:=bs) (o:=0) (n:=X.Z.length) (c:=X.cc) (j:=j) (sz:=4) (r:=j*4) rfl Zrf (hbs▸nH rfl) (Zv rfl) Zrf Wq2 Wq1) ?_;refine dK (bP (vs:=BA.cells x) Zrf Zrf (Zv rfl)) (m8 (n:=X.Z.length) (c:=X.cc) (sz:=4) (e:=202) (xs:=X.Z.flatMap BA.cells) (by have h9:X.Ac=sA bs:=hbs;rw[<-h9];exact Zh) (λi v hiv=>da (f:=BA.cells) Zrf hx hiv)) rfl ?_;refine ZN λb7=>?_
 refine eE (cS Zrf rfl rfl (nM x) Za oV) ?_;rintro _ _ ⟨rfl,rfl⟩;refine Z_6 ?_;refine ZSn (λw hi=>nK x.A (cE x.b.code).length x.c (cE x.b.code) w (hxr _ _ _ _ hi Zh) hxl) ?_;rintro _ _ ⟨A9,c9,rfl,rfl⟩;refine gP ?_;refine Z_5 ?_;refine iD ?_;exact bG (row b4 _ _::baC ⟨x.b,A9,c9⟩::caF bc room X) Zj (ph (cs':=baC ⟨x.b,A9,c9⟩::caF bc room X) (.inl rfl) (List.Sublist.cons _ (aR _)) rfl rfl rfl Zh Zrf Zrf ⟨A9,c9,rfl,rfl⟩)
theorem GN(x k:Ky)(bk:Nat)(w:World)(hi:Inv w (bD [kyR bk k]) [kyR bk k] w):
  Ctr prog 131 ([]++[.agg (bZ x).toArray]++[.p bk]) w [kyR bk k] (λv cs=>v= .bool (x==k)/\cs=[kyR bk k]/\True):=by
 refine Zfn func131 ntmps131 hi ?_;refine Z_2 ?_;refine ZO λb2=>?_;refine Z_7 ?_;refine Zy (I7 vM (D9 x k) (Zv rfl) (Zv rfl)) ?_;refine Z_4 ?_;refine bG [kyR bk k] Zj (Zrb ([row _ _ _]) ?_);exact⟨rfl,rfl,trivial⟩
def LkSm(LK:List (Ky×LS)):Prop:=∀x,x∈LK->lj x.1/\x.2.ks.length<=1000000
theorem Bg(bc ml:Nat)(r0 r1 r3:Value)(LK:List (Ky×LS))(hsm:LkSm LK)(k:Ky)(hk:lj k)(w:World)(hi:Inv w (bD [caR bc r0 r1 (.map (some ml)) r3,mpc ml (lkV LK),bQ (lkC LK)]) [caR bc r0 r1 (.map (some ml)) r3,mpc ml (lkV LK),bQ (lkC LK)] w):
  Ctr prog 115 [.p bc,.agg (bZ k).toArray] w [caR bc r0 r1 (.map (some ml)) r3,mpc ml (lkV LK),bQ (lkC LK)] (λ_ cs=>cs=[caR bc r0 r1 (.map (some ml)) r3,mpc ml (lkV (gz LK k)),bQ (lkC (gz LK k))]):=by
 obtain⟨L0,hL0⟩:=Zgn (qp LK k);have hU:gz LK k=L0.map λx=>(x.1,lK k x.2):=by unfold gz;rw[hL0]
 have hd:qp (lkV LK) k=lkV L0:=by rw[<-hL0];exact Oe LS.v LK k
 have hsub:(lkC L0).Sublist (lkC LK):=by rw[<-hL0];exact(tW LK k).map _
 have hs0:LkSm L0:=λx hx=>hsm x (by rw[<-hL0]at hx;exact(tW LK k).subset hx)
 refine Zfn func115 ntmps115 hi ?_;refine Z_2 ?_;refine ZO λb3=>?_;refine Z_3 ?_;refine bL ⟨λj=>List.elem j [5],[]⟩ Zk (lU ?_);refine ZFe 2 2 ?_;refine ZG 3 ?_;refine ZI 4 ?_;refine cn 5 Zk (fO rfl rfl (t_mdel rfl rfl hk rfl D8 Za) ZJ ?_);rintro _ _ ⟨rfl,rfl⟩;rw[hd];refine eQ ?_;refine Z_3 ?_;refine xm (cin':=lkC (prL k (List.replicate L0.length false) L0)) Zd (by rw[BM];exact hsub) (Z_4 ?_);refine fW (E5 rfl rfl Za) rfl ?_;rintro _ _ ⟨b15,rfl,rfl⟩;rw[<-B8 k L0];refine Z_3 ?_;refine bN (λF:List Bool=>[(0,.p bc),(3,.p b3),(15,.p b15)]) (λF=>[bQ (lkC (prL k F L0)),caR bc r0 r1 (.map (some ml)) r3,itC ml b15 (itL k F L0) none,kyR b3 k]) (λF=>F.length=L0.length) (λF=>Cw F) (List.replicate L0.length false) ?_ ?_ ?_ ?_
 .grind
 .exact Zwk
 .exact Zu
 rintro F hF;refine Z_2 ?_;refine fW (JK rfl Za) rfl ?_;rintro _ _ ⟨o16,ho16,rfl,rfl⟩;refine Zy (I3 Zv0) ?_;refine Zw3 ?_ ?_<;>intro hc3
 .obtain⟨⟨j,q,v⟩,rfl⟩:=Option.isSome_iff_exists.1 hc3;have hj0:(itL k F L0)[j]? =some (false,q,v):=ho16;have hjl:=(aj.1 hj0).1;obtain⟨x,hx,hFj,rfl,rfl⟩:=itL_at hj0;have hjx:(lkC (prL k F L0))[j]? =some (lsC x.2):=(by unfold lkC prL;rw[aW,List.getElem?_zipWith,hFj,hx];rfl);have hjp:=(aj.1 hjx).1;have hji:(DS (itL k F L0) (some (j,x.1,x.2.v)))[j]? =some (true,x.1,x.2.v):=(List.getElem?_set_self hjl);have hIT:((itL k F L0).set j (true,x.1,x.2.v)).set j (true,x.1,(lK k x.2).v)=itL k (F.set j true) L0:=(by rw[List.set_set];exact(De _ F L0 j true x hx).symm);have hPR:(lkC (prL k (F.set j true) L0)).Perm (lsC (lK k x.2)::(lkC (prL k F L0)).eraseIdx j):=(by have e:lkC (prL k (F.set j true) L0)=(lkC (prL k F L0)).set j (lsC (lK k x.2)):=(by unfold lkC prL;rw[De _ F L0 j true x hx,List.map_set];rfl);rw[e];exact tY hjp);refine Z_5 ?_;refine Dh (c:=lsC x.2) (cin':=(lkC (prL k F L0)).eraseIdx j) Zd (oo hjx) (dK (I8 (Zv rfl)) (λw hi=>(show AU ml b15 (DS (itL k F L0) (some (j,x.1,x.2.v))) (some (x.1,x.2.v)) w from hi.get (show Has _ (itC ml b15 (DS (itL k F L0) (some (j,x.1,x.2.v))) (KJ (some (j,x.1,x.2.v))))from Zh))) rfl (Z_2 ?_));refine ZN λb4=>?_
  refine eE (cS (vs:=bZ x.1) Zrf rfl rfl (vL x.1) Za oV) ?_;rintro _ _ ⟨rfl,rfl⟩;refine Z_3 ?_;refine bL ⟨λj=>List.elem j [7,8],tx bc [r0,r1,.map (some ml),r3]++tx b4 (bZ x.1)⟩ Zk (lU ?_);refine ZFe 2 2 ?_;refine iW 3 rfl Zk Zk Zk (bF Zrf (Zv rfl)) Wq3 (fG (bK (t:=195) Zh) (bK (t:=164) Zh)) rfl (uG 4 rfl Zk Zk Zk (bP Zrf Zrf Zv0) (λx hx=>List.mem_append_right _ (fh x hx)) (fG (bK (t:=195) Zh) (bK (t:=164) Zh)) rfl (ZE 5 ?_));refine Zy4 6 rfl (lX rfl) ?_;refine cn 7 Zk (jT rfl rfl (eo ([lsC x.2,kyR b3 k]) rfl (λ_ _=>rfl) Zi (λw hi hin=>delK_ok (λ_:Unit=>kyR b3 k) (λ_=>True) (λ_ _=>()) (λq=>q==k) 131 [.p b3] (λ_ _=>rfl) x.2.ks (hs0 x (ak hx)).2 (λ_ y w _ _ hin=>GN y k b3 w hin) x.2.A x.2.c () trivial w hin)) (λ_=>by rintro _ _ ⟨_,⟨rfl,rfl⟩,rfl⟩;exact fG (bK (t:=195) Zh) (bK (t:=164) Zh)) rfl ?_);rintro _ _ ⟨_,⟨rfl,rfl⟩,rfl⟩;refine cn 8 Zk (fO rfl rfl (t_itput hji rfl rfl rfl rfl D8 Za) (λ_=>by rintro _ _ ⟨rfl,rfl⟩;exact fG (bK (t:=195) Zh) (bK (t:=164) Zh)) ?_);rintro _ _ ⟨rfl,rfl⟩;refine eQ ?_;refine Zo (kr (cin':=lkC (prL k (F.set j true) L0)) (c:=lsC (lK k x.2)) Zd Zd hPR ?_);refine kR (c:=itC ml b15 (((itL k F L0).set j (true,x.1,x.2.v)).set j (true,x.1,(lK k x.2).v)) none) (c':=itC ml b15 (itL k (F.set j true) L0) none) Za rfl (λw h=>by grind) ?_
  refine bJ ((F.set j true)) ?_ ?_ ?_
  .exact⟨by grind,yl hFj⟩
  .exact Zwk
  exact Zj
 obtain rfl:o16=none:=jg;have ho0:∀x,x∈itL k F L0->x.1=true:=ho16;refine Z_4 ?_;refine BL (IL:=itL k F L0) (cur:=none) (b:=ml) (r:=b15) Zd ?_;rw[itL_snd k F L0,Ll hF ho0];refine bG [caR bc r0 r1 (.map (some ml)) r3,mpc ml (lkV (L0.map λx=>(x.1,lK k x.2))),bQ (lkC (L0.map λx=>(x.1,lK k x.2)))] Zj (iY (cs':=[caR bc r0 r1 (.map (some ml)) r3,mpc ml (lkV (L0.map λx=>(x.1,lK k x.2))),bQ (lkC (L0.map λx=>(x.1,lK k x.2)))]) (.inr rfl) Zu rfl ?_);rw[hU]
def C6(keys:List Ky)(LK:List (Ky×LS)):Prop:=∀x,x∈LK->lj x.1/\x.2.ks.Nodup/\∀q,q∈x.2.ks->q∈keys
theorem BR:∀{l m:List Ky},l.Nodup->(∀x,x∈l->x∈m)->l.length<=m.length
 |[],m,_,_=>au _
 |a::l,m,hn,hs=>by
  obtain⟨h1,h2⟩:=List.nodup_cons.1 hn;have hm:=hs a (List.mem_cons_self ..);have:=BR (l:=l) (m:=m.erase a) h2 (λx hx=>(List.mem_erase_of_ne (λe=>h1 bR)).2 (hs x (List.mem_cons_of_mem _ hx)))
  grind
structure ro(room:Int)(X:CaX):Prop where
 rm:1<=room/\room<=1024
 len:(X.Z.length:Int)<=room
 ba:∀x,x∈X.Z->x.b.code.length<=100000/\lj x.b.key
 lk:C6 (X.Z.map BA.key) X.LK
theorem C6.sm{keys:List Ky}{LK:List (Ky×LS)}(h:C6 keys LK)(hk:keys.length<=1000000):∀x,x∈LK->lj x.1/\x.2.ks.length<=1000000:=λx hx=>⟨(h x hx).1,aN (BR (h x hx).2.1 (h x hx).2.2) hk⟩
theorem C6.unlink{keys:List Ky}{LK:List (Ky×LS)}(h:C6 keys LK)(k:Ky):C6 keys (gz LK k)/\∀x,x∈gz LK k->∀q,q∈x.2.ks->q≠k:=by
 refine⟨λx hx=>?_,λx hx q hq=>?_⟩
 .obtain⟨y,hy,rfl⟩:=bn.1 hx;obtain⟨h1,h2,h3⟩:=h y ((tW LK k).subset hy);exact⟨h1,h2.filter _,λq hq=>h3 q (List.mem_filter.1 hq).1⟩
 obtain⟨y,hy,rfl⟩:=bn.1 hx;have:=(List.mem_filter.1 hq).2
 grind
theorem C6.mono{keys keys':List Ky}{LK:List (Ky×LS)}(h:C6 keys LK)(hs:∀q,q∈keys->q∈keys'):C6 keys' LK:=λx hx=>⟨(h x hx).1,(h x hx).2.1,λq hq=>hs q ((h x hx).2.2 q hq)⟩
theorem GM{LK:List (Ky×LS)}{k:Ky}{x:Ky×LS}(hx:x∈gz LK k):∃y,y∈LK/\∀q,q∈x.2.ks->q∈y.2.ks:=by
 obtain⟨y,hy,rfl⟩:=bn.1 hx;exact⟨y,(tW LK k).subset hy,λq hq=>(List.mem_filter.1 hq).1⟩
theorem ro.sm{room:Int}{X:CaX}(h:ro room X):BaSm X.Z:=⟨by have:=h.len;have:=h.rm;omega,h.ba⟩
theorem ro.none{room:Int}(h:1<=room/\room<=1024)(ml:Nat)(A:Option Addr)(c:Nat)(fl:Int):ro room ⟨ml,A,c,fl,[],[]⟩:=
 ⟨h,bR,(λy hy=>nomatch hy),(λy hy=>nomatch hy)⟩
theorem ro.set{room:Int}{X:CaX}(h:ro room X){j:Nat}{x t:BA}(hx:X.Z[j]? =some x)(hk:x.key=t.key)(ht:t.b.code.length<=100000/\lj t.b.key)(ml:Nat)(A:Option Addr)(c:Nat)(fl:Int):ro room ⟨ml,A,c,fl,gz X.LK t.key,X.Z.set j t⟩:=by
 have hjl:=(aj.1 hx).1;have e9:(X.Z.set j t).map BA.key=X.Z.map BA.key:=by
  rw[List.map_set];apply List.ext_getElem?;intro i;rw[List.getElem?_set];by_cases hij:j=i
  .grind
  grind
 refine⟨h.rm,by simp[h.len],λy hy=>?_,?_⟩
 .rcases List.mem_or_eq_of_mem_set hy with hy|rfl
  .exact h.ba y hy
  exact ht
 dsimp only;rw[e9];exact(h.lk.unlink t.key).1
theorem ro.push{room:Int}{X:CaX}(h:ro room X)(hlt:(X.Z.length:Int)<room){t:BA}(ht:t.b.code.length<=100000/\lj t.b.key)(A:Option Addr)(c:Nat):ro room ⟨X.ml,A,c,X.fl,X.LK,X.Z++[t]⟩:=by
 refine⟨h.rm,gZ,λy hy=>?_,h.lk.mono λq hq=>by grind⟩;rcases aF.1 hy with hy|hy
 .exact h.ba y hy
 grind
def nI(D:BA->Bool)(r:Int×List (Ky×LS))(x:BA):Int×List (Ky×LS):=bif D x then(IntKind.i64.wrap (r.1+1),gz r.2 x.key)else r
theorem wi(D:BA->Bool)(keys:List Ky):∀(l:List BA) (r:Int×List (Ky×LS)),0<=r.1->r.1+(l.length:Int)<=1000000000->C6 keys r.2->(l.foldl (nI D) r).1=r.1+(l.filter D).length/\C6 keys (l.foldl (nI D) r).2/\(∀y,y∈(l.foldl (nI D) r).2->∃z,z∈r.2/\∀q,q∈y.2.ks->q∈z.2.ks)/\
  ∀y,y∈(l.foldl (nI D) r).2->∀q,q∈y.2.ks->∀x,x∈l->D x=true->q≠x.key
 |[],r,_,_,h=>⟨by simp,h,λy hy=>⟨y,hy,λq hq=>hq⟩,λ_ _ _ _ x hx=>by cases hx⟩
 |x::l,r,h0,hb,h=>by
  have hb2:r.1+(l.length:Int)+1<=1000000000:=by simp only[aQ]at hb;omega
  rw[List.foldl_cons,List.filter_cons];cases hD:D x with
  |false=>
   have e:nI D r x=r:=by unfold nI;rw[hD,ah]
   rw[e];obtain⟨h1,h2,h3,h4⟩:=wi D keys l r h0 Wq1 h
   grind
  |true=>
   have e:nI D r x=(r.1+1,gz r.2 x.key):=by unfold nI;rw[hD,ai,show IntKind.i64.wrap (r.1+1)=r.1+1 by rw[bA];omega]
   rw[e];obtain⟨u1,u2⟩:=h.unlink x.key;obtain⟨h1,h2,h3,h4⟩:=wi D keys l (r.1+1,gz r.2 x.key) Wq1 Wq1 u1
   grind [GM]
theorem put_at{α:Type}{key:α->Ky}{room:Int}{l:List α}{t:α}{j:Nat}(h:cL key (key t) l=some j):vh key room l t=l.set j t:=by unfold vh;rw[h]
theorem Ol{α:Type}{key:α->Ky}{room:Int}{l:List α}{t:α}(h:cL key (key t) l=none)(h2:room<=(l.length:Int)):vh key room l t=[t]:=by grind [vh]
theorem Ok{α:Type}{key:α->Ky}{room:Int}{l:List α}{t:α}(h:cL key (key t) l=none)(h2:¬room<=(l.length:Int)):vh key room l t=l++[t]:=by grind [vh]
theorem place_b(k:Ky)(Z:List BA):cL Blk.key k (Z.map BA.b)=cL BA.key k Z:=by grind [j7]
theorem cnew_ok(room:Int)(w:World):Ctr prog 85 [.i room] w [] (λv cs=>if 1<=room/\room<=1024 then∃bc ml,v= .tuple #[.p bc,.i 0]/\cs=caF bc room ⟨ml,none,0,0,[],[]⟩else v= .tuple #[.pointer none,.i 1]/\cs=[]):=by
 refine Zfs func85 ntmps85 ?_;refine AG ?_;refine ZW ?_ ?_<;>intro hc1
 .have hnr:¬(1<=room/\room<=1024):=bR;refine Z_8 ?_;refine mQ ?_;rw[if_neg hnr];exact fy
 have hnr:1<=room/\room<=1024:=bR;refine Z_4 ?_;refine cT 202 4 (jS (jS (ZA ?_)));refine fW (Dt rfl) rfl ?_;rintro _ _ ⟨b11,rfl,rfl⟩;refine ZA ?_;refine ZO λb13=>?_
 refine Z_5 ?_;refine bG (caF b13 room ⟨b11,none,0,0,[],[]⟩) Zj (xH (cs':=caF b13 room ⟨b11,none,0,0,[],[]⟩) (.inl rfl) (aR _) rfl rfl rfl ?_);rw[if_pos hnr];exact⟨b13,b11,rfl,rfl⟩
theorem clen_ok(bc:Nat)(room:Int)(X:CaX)(w:World)(hi:Inv w (bD (caF bc room X)) (caF bc room X) w):Ctr prog 159 [.p bc] w (caF bc room X) (λv cs=>v= .i (X.Z.length:Int)/\cs=caF bc room X):=by
 refine Zfn func159 ntmps159 hi ?_;refine sw ?_;exact IY (cs':=caF bc room X) (.inl rfl) (aR _) rfl rfl fy
theorem CJ(bc:Nat)(room:Int)(X:CaX)(w:World)(hi:Inv w (bD (caF bc room X)) (caF bc room X) w):Ctr prog 107 [.p bc] w (caF bc room X) (λv cs=>∃ml fl,v= .i (X.Z.length:Int)/\cs=caF bc room ⟨ml,none,0,fl,[],[]⟩):=by
 refine Zfn func107 ntmps107 hi ?_;refine AG ?_;refine cT 202 4 (jS (jS (Z_2 ?_)));refine fW (Dt rfl) rfl ?_;rintro _ _ ⟨b11,rfl,rfl⟩;refine mP ?_;refine mP ?_;refine Z_8 ?_;refine pP ?_;refine mP ?_;refine Z_9 ?_;exact bG (caF bc room ⟨b11,none,0,IntKind.i64.wrap (X.fl+1),[],[]⟩) Zj (IY (cs':=caF bc room ⟨b11,none,0,IntKind.i64.wrap (X.fl+1),[],[]⟩) (.inl rfl) (aR _) rfl rfl pN)
abbrev caL(bc:Nat)(room:Int)(ml:Nat)(A:Option Addr)(cc:Nat)(fl:Int)(n:Nat)(xs:List Value)(cin:List bC)(LK:List (Ky×LS)):List bC:=[caR bc (.i room) (.slice A n cc) (.map (some ml)) (.i fl),slv 202 4 A n cc xs,bQ cin,mpc ml (lkV LK),bQ (lkC LK)]
theorem cput_ok(bc:Nat)(room:Int)(X:CaX)(hX:ro room X)(t:BA)(ht:t.b.code.length<=100000/\lj t.b.key)(hc1:1<=t.b.count)(hne:t.b.code≠[])(w:World)(hi:Inv w (bD (caF bc room X)) (caF bc room X) w)(hR:∀w',cY (bD (caF bc room X)) w w'->Rd w' .u8 t.A (cE t.b.code).length t.c (cE t.b.code)):
  Ctr prog 158 [.p bc,.agg t.cells.toArray] w (caF bc room X) (λ_ cs=>∃X':CaX,cs=caF bc room X'/\ro room X'/\X'.Z.map BA.b=vh Blk.key room (X.Z.map BA.b) t.b):=by
 have hS:=hX.sm;have hZ:=hS.1;have hlen:=hX.len;obtain⟨hr1,hr2⟩:=hX.rm;have hb8:(cE t.b.code).length<=140737488355328:=by rw[jd];omega
 have hb0:(cE t.b.code).length≠0:=by rw[jd];intro e;exact hne (List.eq_nil_of_length_eq_zero Wq1)
 have HP:=wu bc (.i room) (.map (some X.ml)) (.i X.fl) X.Ac X.cc X.Z hZ t.b.key;have HU:=Bg bc X.ml (.i room) (.slice X.Ac X.Z.length X.cc) (.i X.fl) X.LK (hX.lk.sm bR) t.b.key ht.2;have HF:=CJ bc room X;obtain⟨o,ho⟩:=Zgn (cL BA.key t.b.key X.Z);rw[ho]at HP;have hob:cL Blk.key t.b.key (X.Z.map BA.b)=o:=by rw[place_b,ho]
 obtain⟨ml,Ac,cc,fl,LK,Z⟩:=X;dsimp only at hS hZ hlen HP HU HF ho hob;refine Zfn func158 ntmps158 hi ?_;refine Z_2 ?_;refine ZO λb3=>?_;refine AG ?_;refine cJ rfl (bR) (Z_6 ?_);refine ZSn (λw hi=>nK t.A (cE t.b.code).length t.c (cE t.b.code) w (hR w hi.Sf) hb8) ?_;rintro _ _ ⟨A9,c9,rfl,rfl⟩;refine gP ?_;refine Z_7 ?_;refine dK (bP (vs:=bZ t.b.key) Zrf Zrf Zv0) (cO Zh rfl) rfl (ZcM ([caR bc (.i room) (.slice Ac Z.length cc) (.map (some ml)) (.i fl),slv 202 4 Ac Z.length cc (Z.flatMap BA.cells)]) (λw hi hin=>HP w hin) ?_);refine Zw9 ?_ ?_<;>intro hc5
 .obtain⟨j,rfl⟩:∃j,o=some j:=(by cases o with|none=>cases hc5|some j=>grind);obtain⟨x,hx,hxk, -⟩:=so ho;have hjl:=(aj.1 hx).1;obtain⟨bs,rfl⟩:=dO (hi.get (.tail _ (.head (slv 202 4 Ac Z.length cc (Z.flatMap BA.cells)) _))) (show 0<Z.length by omega);refine Z_4 ?_;refine dK (bP (vs:=bZ t.b.key) Zrf Zrf Zv0) (cO Zh rfl) rfl (ZcL ([caR bc (.i room) (.slice (sA bs) Z.length cc) (.map (some ml)) (.i fl),mpc ml (lkV LK),bQ (lkC LK)]) (λw hi hin=>HU w hin) ?_);rintro _ _ ⟨_,rfl,rfl⟩;refine Z_3 ?_;refine bL ⟨λj=>List.elem j [7],[]⟩ Zk (lU ?_);refine ZFe 2 1 ?_;refine ZG 3 ?_;refine ZE 4 ?_;refine ZI 5 ?_;refine Zy4 6 rfl (bV (bb:=bs) (o:=0) (n:=Z.length) (c:=cc) (j:=j) (sz:=4) (r:=j*4) rfl Zrf (Zv rfl) (Zv rfl) Zrf Wq2 Wq1) ?_;refine cn 7 Zk (fO rfl rfl (uU (sz:=4) (n:=Z.length) (c:=cc) (vs:=BA.cells ⟨t.b,A9,c9⟩) Zrf rfl rfl (nM _) Za rfl Wq1) ZJ ?_);rintro _ _ ⟨rfl,rfl⟩;rw[Ab (f:=BA.cells) (sz:=4) Zrf hjl];refine eQ ?_;refine Z_8 ?_;exact BK (cin:=Z.map baC) (c:=baC x) (cin':=(Z.map baC).eraseIdx j) Zd (oo bR) (kr (cin:=(Z.map baC).eraseIdx j) (c:=baC ⟨t.b,A9,c9⟩) (cin':=(Z.set j ⟨t.b,A9,c9⟩).map baC) Zd Zd (by rw[List.map_set];exact tY bR) (bG (caL bc room ml (sA bs) cc fl Z.length ((Z.set j ⟨t.b,A9,c9⟩).flatMap BA.cells) ((Z.set j ⟨t.b,A9,c9⟩).map baC) (gz LK t.b.key)) Zj (IY (cs':=caL bc room ml (sA bs) cc fl Z.length ((Z.set j ⟨t.b,A9,c9⟩).flatMap BA.cells) ((Z.set j ⟨t.b,A9,c9⟩).map baC) (gz LK t.b.key)) (.inl rfl) (aR _) rfl rfl ⟨⟨ml,some ⟨bs,0,none⟩,cc,fl,gz LK t.b.key,Z.set j ⟨t.b,A9,c9⟩⟩,by grind,hX.set (t:=⟨t.b,A9,c9⟩) hx hxk ht _ _ _ _,by rw[put_at hob,List.map_set]⟩)))
 obtain rfl:o=none:=(by cases o with|none=>rfl|some j=>have h9:¬(0:Int)<=((j:Nat):Int):=of_decide_eq_false hc5;omega);refine Z_2 ?_;refine cD (λY:CaX=>[(0,.p bc),(3,.p b3)]) (λY=>caF bc room Y++[row b3 (BA.cells ⟨t.b,A9,c9⟩) 202,baC ⟨t.b,A9,c9⟩]) (λY=>ro room Y/\(Y.Z.length:Int)<room/\Y.Z.map BA.b++[t.b]=vh Blk.key room (Z.map BA.b) t.b) ?_ ?_
 .refine Zs (bL ⟨λj=>List.elem j [],[]⟩ Zk ?_);refine lU ?_;refine ZFe 2 1 ?_;refine oO ?_;refine ZE 6 ?_;refine ZFe 7 0 ?_;refine ZG 8 ?_;refine ZE 9 ?_;refine eQ ?_;refine Zt (ZW ?_ ?_)<;>intro hc9
  .have hfull:room<=((Z.map BA.b).length:Int):=bR;refine Z_2 ?_;refine dz (caF bc room ⟨ml,Ac,cc,fl,LK,Z⟩) (λw hi hin=>HF w hin) ?_;rintro _ _ ⟨ml2,fl2,rfl,rfl⟩;refine Zn (bJ ((⟨ml2,none,0,fl2,[],[]⟩:CaX)) ?_ ?_ ?_)
   .exact⟨ro.none ⟨hr1,hr2⟩ _ _ _ _,by grind,by rw[Ol hob hfull];rfl⟩
   .exact Zwk
   exact Zj
  have hfull:¬room<=((Z.map BA.b).length:Int):=bR;refine Zc (bJ ((⟨ml,Ac,cc,fl,LK,Z⟩:CaX)) ?_ ?_ ?_)
  .exact⟨hX,by grind,by rw[Ok hob hfull]⟩
  .exact Zwk
  exact Zj
 rintro⟨ml2,Ac2,cc2,fl2,LK2,Z2⟩ ⟨hY,hlt,hput⟩;dsimp only at hlt hput|-;refine Zs (bL ⟨λj=>List.elem j [7,10],tx b3 (BA.cells ⟨t.b,A9,c9⟩)⟩ Zk ?_);refine kQ ?_;refine ZFe 3 1 ?_;refine ZG 4 ?_;refine uG 5 rfl Zk Zk Zk (bP Zrf Zrf Zv0) (λx hx=>fh x hx) (bK (t:=202) Zh) rfl (cn 6 Zk (jT rfl rfl (gD rfl rfl Zrf Zrf rfl rfl rfl) (λ_=>by rintro _ _ ⟨b54,rfl,rfl⟩;exact bK (t:=202) Zh) rfl ?_));rintro _ _ ⟨b54,rfl,rfl⟩;refine cn 7 Zk (jT rfl rfl (cj (n:=Z2.length) (e:=202) (sz:=4) (bytes:=40) rfl rfl Za rfl rfl (λw hi=>hi.rd (show Has _ (slv 202 4 (sA b54) 1 1 (BA.cells ⟨t.b,A9,c9⟩))from Zh)) (nM ⟨t.b,A9,c9⟩) gq Wq1) (λ_=>by rintro _ _ ⟨A2,c2,rfl,rfl⟩;exact bK (t:=202) Zh) rfl ?_);rintro _ _ ⟨A2,c2,rfl,rfl⟩;rw[show Z2.flatMap BA.cells++BA.cells ⟨t.b,A9,c9⟩=(Z2++[(⟨t.b,A9,c9⟩:BA)]).flatMap BA.cells by simp,show Z2.length+1=(Z2++[(⟨t.b,A9,c9⟩:BA)]).length by simp];refine ZE 8 ?_;refine ZFe 9 1 ?_;refine cn 10 Zk (fO rfl rfl (mZ Zrf rfl rfl rfl Za Zp) (λ_=>by rintro _ _ ⟨rfl,rfl⟩;exact bK (t:=202) Zh) ?_);rintro _ _ ⟨rfl,rfl⟩;refine eQ ?_;refine Z_7 ?_;exact kr (cin:=Z2.map baC) (c:=baC ⟨t.b,A9,c9⟩) (cin':=(Z2++[(⟨t.b,A9,c9⟩:BA)]).map baC) Zd Zd jg (bG (caF bc room ⟨ml2,A2,c2,fl2,LK2,Z2++[(⟨t.b,A9,c9⟩:BA)]⟩) Zj (IY (cs':=caF bc room ⟨ml2,A2,c2,fl2,LK2,Z2++[(⟨t.b,A9,c9⟩:BA)]⟩) (.inl rfl) (aR _) rfl rfl ⟨⟨ml2,A2,c2,fl2,LK2,Z2++[(⟨t.b,A9,c9⟩:BA)]⟩,rfl,hY.push (t:=⟨t.b,A9,c9⟩) hlt ht _ _,by grind⟩))
end
end Go.Ink
