/- Lemmas. -/
import Derived.Test.YtomjgmbccamgiaaGreatDoorQaa
import Derived.Test.YtomjgmbccamgiaaGreatDoorQab
import Derived.Test.YtomjgmbccamgiaaGreatDoorQac
import Derived.Test.YtomjgmbccamgiaaGreatDoorQae
import Derived.Test.YtomjgmbccamgiaaGreatDoorQan
set_option linter.unusedSimpArgs false
set_option linter.unusedVariables false
set_option maxRecDepth 100000
set_option maxHeartbeats 4000000
namespace Go.Ink
open Go.RowKit
theorem lJ{w0:World}{S:List Nat}{cs:List bJ}{e sz n c o bb:Nat}{xs vs:List Value}(hc:Has cs (slv e sz (some ⟨bb,0,none⟩) n c xs))(hv:∀i v,vs[i]? =some v→xs[o+i]? =some v):∀w,Inv w0 S cs w→cells (eU ⟨bb,o,none⟩ 0 vs) w:=fun w hi z hz=>by
 obtain⟨j,h1,h2⟩:=gO hz;have:=(hi.rd hc).at_ _ rfl (o+j) z.2 (hv j z.2 h1);rw[Addr.add_lit,bo]at this;rw[h2,Addr.add_lit,bo];exact this
theorem oF{α:Type}{l:List α}{k:Nat}{x:α}(h:l[k]? =some x):l.drop k=x::l.drop (k+1):=by
 obtain⟨h1,h2⟩:=au.1 h;rw[List.drop_eq_getElem_cons h1,h2]
theorem ot{α:Type}{f:α→List Value}{sz:Nat}(hf:∀a,(f a).length=sz):∀(l:List α) (i:Nat),(l.flatMap f).take (i*sz)=(l.take i).flatMap f
 |[],i=>by simp
 |x::l,0=>by simp
 |x::l,i+1=>by
  rw[List.flatMap_cons,List.take_succ_cons,List.flatMap_cons,←ot hf l i,show(i+1)*sz=(f x).length+i*sz by rw[hf,Nat.succ_mul];omega,List.take_length_add_append]
theorem wO{α:Type}{f:α→List Value}{sz:Nat}(hf:∀a,(f a).length=sz):∀(l:List α) (i:Nat),(l.flatMap f).drop (i*sz)=(l.drop i).flatMap f
 |[],i=>by simp
 |x::l,0=>by simp
 |x::l,i+1=>by
  rw[List.flatMap_cons,List.drop_succ_cons,←wO hf l i,show(i+1)*sz=(f x).length+i*sz by rw[hf,Nat.succ_mul];omega,List.drop_length_add_append]
theorem u7{α:Type}{f:α→List Value}{sz:Nat}(hf:∀a,(f a).length=sz){l:List α}{i:Nat}{x:α}(hi:i<l.length):(l.flatMap f).take (i*sz)++f x++(l.flatMap f).drop (i*sz+sz)=(l.set i x).flatMap f:=by
 rw[ot hf,show i*sz+sz=(i+1)*sz by rw[Nat.succ_mul],wO hf,List.set_eq_take_append_cons_drop,if_pos hi,List.flatMap_append,List.flatMap_cons,aq]
def BF(o:Option Nat):Int:=match o with|none=> -1|some j=>(j:Int)
theorem zl{o:Option Nat}(h:(BF o== -1)=true):o=none:=by
 cases o with
 |none=>rfl
 |some j=>simp only[BF,beq_iff_eq]at h;omega
theorem zk{o:Option Nat}(h:(BF o== -1)=false):∃j,o=some j:=by
 cases o with
 |none=>simp[BF]at h
 |some j=>exact⟨j,rfl⟩
theorem r7{α:Type}{D:α→Bool}:∀{l:List α},l.findIdx? D=none→l.filter (fun x=> !D x)=l∧(l.filter D).length=0
 |[],_=>⟨rfl,rfl⟩
 |x::l,h=>by
  rw[List.findIdx?_cons]at h;cases hd:D x with
  |true=>rw[hd]at h;cases h
  |false=>
   rw[hd]at h;simp only[Bool.false_eq_true,if_false,Option.map_eq_none_iff]at h;obtain⟨h1,h2⟩:=r7 h;simp only[List.filter_cons,hd,Bool.not_false,if_true,Bool.false_eq_true,if_false];exact⟨by rw[h1],h2⟩
theorem pt{α:Type}{D:α→Bool}:∀{l:List α} {i:Nat},l.findIdx? D=some i→i<l.length∧l.take i++(l.drop (i+1)).filter (fun x=> !D x)=l.filter (fun x=> !D x)∧1+((l.drop (i+1)).filter D).length=(l.filter D).length
 |[],i,h=>by simp at h
 |x::l,i,h=>by
  rw[List.findIdx?_cons]at h;cases hd:D x with
  |true=>
   rw[hd]at h;simp only[if_true,aU]at h;subst h;simp[List.filter_cons,hd];omega
  |false=>
   rw[hd]at h;simp only[Bool.false_eq_true,if_false,Option.map_eq_some_iff]at h;obtain⟨j,hj,rfl⟩:=h;obtain⟨h1,h2,h3⟩:=pt hj;refine⟨by simp;omega,?_,?_⟩
   ·simp only[List.take_succ_cons,List.drop_succ_cons,List.filter_cons,hd,Bool.not_false,if_true,aP,h2]
   simp only[List.drop_succ_cons,List.filter_cons,hd,Bool.false_eq_true,if_false,h3]
def idxN(n:Nat)(o:Option Nat):Nat:=match o with|none=>n|some i=>i+1
theorem nK{α β:Type}{l:List α}{j:Nat}{x:α}(hx:l[j]? =some x)(f:β→α→β)(b:β):(l.take (j+1)).foldl f b=f ((l.take j).foldl f b) x:=by
 obtain⟨h1,h2⟩:=au.1 hx;rw[List.take_succ_eq_append_getElem h1,List.foldl_append,h2]
 rfl
structure BA where
 b:Blk
 A:Option Addr
 c:Nat
def BA.cells(x:BA):List Value:=[.int .u32 x.b.key.1,.int .u32 x.b.key.2,.slice x.A (cO x.b.code).length x.c,.int .i64 x.b.count]
abbrev BA.key(x:BA):Ky:=x.b.key
def cH(q:Ky):List Value:=[.int .u32 q.1,.int .u32 q.2]
theorem fP(x:BA):∀u∈x.cells,u.oneCell'=true:=fun u h=>by
 simp only[BA.cells,aM,a9,or_false]at h;rcases h with rfl|rfl|rfl|rfl<;>rfl
theorem rL(x:Ky):∀u∈cH x,u.oneCell'=true:=fun u h=>by
 simp only[cH,aM,a9,or_false]at h;rcases h with rfl|rfl<;>rfl
end Go.Ink
namespace Go.Proofs.YtomjgmbccamgiaaGreatDoor
open Go.RowKit Go.Ink Go.Proofs.Tryz
attribute [local irreducible] OpY bW
theorem DH{ρ:Type}(Y:ρ→bJ)(ok:ρ→Prop)(step:ρ→BA→ρ)(D:BA→Bool)(f:FuncId)(caps:List Value)(HF:∀args w,(callFunc f args).run prog w= .ok (.enter f args) w)(l:List BA)(hl:l.length≤1000000)
  (HC:∀(r:ρ) (x:BA) (w:World),ok r→x∈l→Inv w (bK [Y r]) [Y r] w→Ctr prog f ([]++[.agg (BA.cells x).toArray]++caps) w [Y r] (fun v cs=>v= .bool (D x)∧cs=[Y (step r x)]∧ok (step r x)))
  (A:Option Addr) (c:Nat) (r0:ρ) (hok:ok r0) (w:World) (hi:Inv w (bK [slv 173 4 A l.length c (l.flatMap BA.cells),Y r0]) [slv 173 4 A l.length c (l.flatMap BA.cells),Y r0] w):
  Ctr prog 104 [.slice A l.length c,.func (.func f) #[] caps.toArray] w [slv 173 4 A l.length c (l.flatMap BA.cells),Y r0] (fun v cs=>∃r',v= .int .i64 (BF (l.findIdx? D))∧r'=(l.take (idxN l.length (l.findIdx? D))).foldl step r0∧ok r'∧cs=[slv 173 4 A l.length c (l.flatMap BA.cells),Y r']):=by
 refine bL func104 rfl ntmps104 rfl hi ?_;refine ic ?_;refine cJ (fun q:Nat×ρ=>[(0,.slice A l.length c),(1,.func (.func f) #[] caps.toArray),(7,.int .i64 (l.length:Int)),(8,.int .i64 (q.1:Int))]) (fun q=>[slv 173 4 A l.length c (l.flatMap BA.cells),Y q.2]) (fun q=>(q.1≤l.length∧q.2=(l.take q.1).foldl step r0∧ok q.2)∧l.findIdx? D=((l.drop q.1).findIdx? D).map (· +q.1)) (fun q=>l.length - q.1) (⟨0,r0⟩) ?_ ?_ ?_ ?_
 ·exact⟨⟨aw _,rfl,hok⟩,by simp⟩
 ·exact Zwk
 ·exact Zu
 rintro⟨j,r⟩ ⟨⟨hj,hr,hrk⟩,hf⟩;dsimp only at hj hr hrk hf⊢;refine Z_6 ?_;refine ZW ?_ ?_<;>intro hc2
 ·simp only[ap]at hc2;have hjl:j<l.length:=(by omega);obtain⟨bs,rfl⟩:=hI (hi.get (show Has _ (slv 173 4 A l.length c (l.flatMap BA.cells))from Zh)) (by omega);obtain⟨x,hx⟩:∃x,l[j]? =some x:=⟨_,ak hjl⟩;rw[oF hx,List.findIdx?_cons]at hf;refine qp ?_;refine Zy (cI (bb:=bs) (o:=0) (n:=l.length) (c:=c) (j:=j) (sz:=4) (r:=j*4) rfl Zrf (Zv rfl) (Zv rfl) Zrf (fun _=>by omega) (by omega)) ?_;refine dU (cC (vs:=BA.cells x) Zrf Zrf Zv0) (lJ Zh (fun i v hiv=>fF (f:=BA.cells) Zrf hx hiv)) rfl ?_;refine dM (fx ([Y r]) rfl rfl HF Zi (fun w hi hin=>HC r x w hrk (aK hx) hin)) rfl ?_;rintro _ _ ⟨_,⟨rfl,rfl,hrk2⟩,rfl⟩;obtain⟨r2,hr2⟩:=Zgn (step r x);rw[hr2]at hrk2⊢;have hr3:r2=(l.take (j+1)).foldl step r0:=(by rw[←hr2,hr,nK hx]);refine Z_2 ?_;refine ZW ?_ ?_<;>intro hc4
  ·rw[hc4,if_pos rfl]at hf;have hf:l.findIdx? D=some j:=(by rw[hf];simp);rw[hf];refine gK ?_;refine bQ [slv 173 4 (some ⟨bs,0,none⟩) l.length c (l.flatMap BA.cells),Y r2] Zj ?_;refine Zrb ([_,_]) ?_;exact⟨r2,rfl,hr3,hrk2,rfl⟩
  rw[hc4,if_neg (by simp)]at hf;refine Z_4 ?_;refine Zy (cF Zv0 Zv0 Zl) ?_;refine Z_2 ?_;refine cz ((⟨j+1,r2⟩:Nat×ρ)) ?_ ?_ ?_
  ·exact⟨⟨⟨by omega,hr3,hrk2⟩,by dsimp only;rw[hf,Option.map_map];congr 1;funext z;simp only[Function.comp];omega⟩,by dsimp only;omega⟩
  ·exact Zwk
  exact Zj
 simp only[aj]at hc2;obtain rfl:j=l.length:=(by omega);rw[List.drop_length]at hf;have hf:l.findIdx? D=none:=hf;rw[hf];refine eo ?_;refine Zrb ([_,_]) ?_;exact⟨r,rfl,by rw[bA]at hr;show r=(l.take l.length).foldl step r0;rw[bA];exact hr,hrk,rfl⟩
theorem delB_ok{ρ:Type}(Y:ρ→bJ)(ok:ρ→Prop)(step:ρ→BA→ρ)(D:BA→Bool)(f:FuncId)(caps:List Value)(HF:∀args w,(callFunc f args).run prog w= .ok (.enter f args) w)(l:List BA)(hl:l.length≤1000000)
  (HC:∀(r:ρ) (x:BA) (w:World),ok r→x∈l→Inv w (bK [Y r]) [Y r] w→Ctr prog f ([]++[.agg (BA.cells x).toArray]++caps) w [Y r] (fun v cs=>v= .bool (D x)∧cs=[Y (step r x)]∧ok (step r x)))
  (A:Option Addr) (c:Nat) (r0:ρ) (hok:ok r0) (w:World) (hi:Inv w (bK [slv 173 4 A l.length c (l.flatMap BA.cells),Y r0]) [slv 173 4 A l.length c (l.flatMap BA.cells),Y r0] w):
  Ctr prog 78 [.slice A l.length c,.func (.func f) #[] caps.toArray] w [slv 173 4 A l.length c (l.flatMap BA.cells),Y r0] (fun v cs=>v= .slice A (l.filter fun x=> !D x).length c∧cs=[slv 173 4 A (l.filter fun x=> !D x).length c ((l.filter fun x=> !D x).flatMap BA.cells),Y (l.foldl step r0)]):=by
 have HI:=DH Y ok step D f caps HF l hl HC A c r0 hok;have hcap:=(hi.rd (.head (slv 173 4 A l.length c (l.flatMap BA.cells)) _)).cap;have hfn:=r7 (D:=D) (l:=l);have hfs:=fun i=>pt (D:=D) (l:=l) (i:=i)
 obtain⟨o,ho⟩:=Zgn (l.findIdx? D);rw[ho]at HI hfn hfs;refine bL func78 rfl ntmps78 rfl hi ?_;refine Z_9 ?_;refine ZcL ([slv 173 4 A l.length c (l.flatMap BA.cells),Y r0]) (fun w hi hin=>HI w hin) ?_;rintro _ _ ⟨_,⟨r1,rfl,hr1,hok1,rfl⟩,rfl⟩;refine eK ?_;refine ZW ?_ ?_<;>intro hc2
 ·obtain rfl:=zl hc2;obtain⟨hf1,hf2⟩:=hfn rfl;refine Z_8 ?_;refine Zrb ([_,_]) ?_;rw[hf1];have hr1:r1=(l.take l.length).foldl step r0:=hr1;rw[bA]at hr1;rw[←hr1];exact⟨rfl,rfl⟩
 obtain⟨i0,rfl⟩:=zk hc2;obtain⟨hf1,hf2,hf3⟩:=hfs i0 rfl;obtain⟨bs,rfl⟩:=hI (hi.get (show Has _ (slv 173 4 A l.length c (l.flatMap BA.cells))from Zh)) (by omega);refine Z_6 ?_;refine Zy (cF (Zv rfl) (Zv rfl) (show _=((i0+1:Nat):Int)from by rw[show BF (some i0)=(i0:Int)from rfl,bI];omega)) ?_;refine Z_4 ?_;refine cJ (fun q:(Nat×Nat)×List BA×ρ=>[(0,.slice (some ⟨bs,0,none⟩) l.length c),(1,.func (.func f) #[] caps.toArray),(5,.int .i64 (q.1.1:Int)),(6,.int .i64 (q.1.2:Int))]) (fun q=>[slv 173 4 (some ⟨bs,0,none⟩) l.length c (q.2.1.flatMap BA.cells),Y q.2.2]) (fun q=>(q.2.2=(l.take q.1.2).foldl step r0∧ok q.2.2)∧q.1.1<q.1.2∧q.1.2≤l.length∧q.2.1.length=l.length∧q.2.1.drop q.1.2=l.drop q.1.2∧q.2.1.take q.1.1++(l.drop q.1.2).filter (fun x=> !D x)=l.filter (fun x=> !D x)) (fun q=>l.length - q.1.2) (⟨(i0,i0+1),l,r1⟩) ?_ ?_ ?_ ?_
 ·exact⟨⟨hr1,hok1⟩,Nat.lt_succ_self _,by dsimp only;omega,rfl,rfl,hf2⟩
 ·exact Zwk
 ·exact Zu
 rintro⟨⟨i,j⟩,V,r⟩ ⟨⟨hr,hrk⟩,hij,hj,hV,hVd,hT⟩;dsimp only at hr hrk hij hj hV hVd hT⊢;refine Z_9 ?_;refine ZW ?_ ?_<;>intro hc5
 ·simp only[ap]at hc5;have hjl:j<l.length:=(by omega);obtain⟨x,hx⟩:∃x,l[j]? =some x:=⟨_,ak hjl⟩;have hVx:V[j]? =some x:=(by have:=congrArg (fun z=>z[0]?) hVd;simp only[List.getElem?_drop,Nat.add_zero]at this;rw[this,hx]);rw[oF hx]at hT;rw[oF hx,oF hVx,List.cons.injEq]at hVd;rw[List.filter_cons]at hT;refine Z_8 ?_;refine Zy (cI (bb:=bs) (o:=0) (n:=l.length) (c:=c) (j:=j) (sz:=4) (r:=j*4) rfl Zrf (Zv rfl) (Zv rfl) Zrf (fun _=>by omega) (by omega)) ?_;refine dU (cC (vs:=BA.cells x) Zrf Zrf Zv0) (lJ Zh (fun i v hiv=>fF (f:=BA.cells) Zrf hVx hiv)) rfl ?_;refine ZN fun b7=>?_
  refine dz (cq Zrf rfl rfl (fP x) Za (by exact rfl)) ?_;rintro _ _ ⟨rfl,rfl⟩;refine Z_6 ?_;refine dM (fx ([Y r]) rfl rfl HF Zi (fun w hi hin=>HC r x w hrk (aK hx) hin)) rfl ?_;rintro _ _ ⟨_,⟨rfl,rfl,hrk2⟩,rfl⟩;obtain⟨r2,hr2⟩:=Zgn (step r x);rw[hr2]at hrk2⊢;have hr3:r2=(l.take (j+1)).foldl step r0:=(by rw[←hr2,hr,nK hx]);refine Z_3 ?_;refine ZW ?_ ?_<;>intro hc8
  ·have hD:D x=false:=(by simpa using hc8);rw[hD]at hT;simp only[Bool.not_false,if_true]at hT;refine Z_5 ?_;refine Zy (cI (bb:=bs) (o:=0) (n:=l.length) (c:=c) (j:=i) (sz:=4) (r:=i*4) rfl Zrf (Zv rfl) (Zv rfl) Zrf (fun _=>by omega) (by omega)) ?_;refine dz (qW (sz:=4) (n:=l.length) (vs:=BA.cells x) Zrf rfl rfl (fP x) Za rfl (by omega)) ?_;rintro _ _ ⟨rfl,rfl⟩;rw[u7 (f:=BA.cells) (sz:=4) Zrf (show i<V.length by omega)];refine Z_4 ?_;refine Zy (cF Zv0 Zv0 Zl) ?_;refine Z_6 ?_;refine Zy (cF Zv0 Zv0 Zl) ?_;refine Z_2 ?_;refine cz ((⟨(i+1,j+1),V.set i x,r2⟩:(Nat×Nat)×List BA×ρ)) ?_ ?_ ?_
   ·exact⟨⟨⟨hr3,hrk2⟩,by dsimp only;omega,by dsimp only;omega,by dsimp only;rw[aL,hV],by dsimp only;rw[List.drop_set_of_lt (by omega),hVd.2],by dsimp only;rw[List.take_succ_eq_append_getElem (by rw[aL];omega),List.take_set_of_le (aQ _),List.getElem_set_self,aq];exact hT⟩,by dsimp only;omega⟩
   ·exact Zwk
   exact Zj
  have hD:D x=true:=(by simpa using hc8);rw[hD]at hT;simp only[Bool.not_true,Bool.false_eq_true,if_false]at hT;refine Z_5 ?_;refine Zy (cF Zv0 Zv0 Zl) ?_;refine Z_2 ?_;refine cz ((⟨(i,j+1),V,r2⟩:(Nat×Nat)×List BA×ρ)) ?_ ?_ ?_
  ·exact⟨⟨⟨hr3,hrk2⟩,by dsimp only;omega,by dsimp only;omega,hV,hVd.2,hT⟩,by dsimp only;omega⟩
  ·exact Zwk
  exact Zj
 simp only[aj]at hc5;obtain rfl:j=l.length:=(by omega);rw[List.drop_length]at hT;rw[List.filter_nil,ay]at hT;rw[bA]at hr;have hil:(l.filter fun x=> !D x).length=i:=(by rw[←hT,az];omega);refine Z_9 ?_;refine Zy (kO (bb:=bs) (o:=0) (n:=l.length) (c:=c) (lo:=i) (hi:=l.length) (r:=0+i*4) (sz:=4) rfl Zrf (Zv rfl) (.inr ⟨_,_,rfl,(Zv rfl)⟩) (.inl ⟨rfl,rfl⟩) (by omega) (by omega) (by omega) (by omega)) ?_;refine BP (c:=slv 173 4 (some ⟨bs,0,none⟩) l.length c (V.flatMap BA.cells)) (c':=slv 173 4 (some ⟨bs,0,none⟩) i c ((V.flatMap BA.cells).take (i*4))) Za rfl (yQ (by omega)) ?_
 refine dz (vF rfl Za rfl Zrf (sz:=4) rfl rfl (by decide) (by intro u hu;simp only[aM,a9,or_false]at hu;rcases hu with rfl|rfl|rfl|rfl<;>rfl) (by omega) (by omega)) ?_;rintro _ _ ⟨rfl,rfl⟩;refine Z_6 ?_;refine Zy (gL i rfl Zrf (Zv rfl) (Zv rfl) (fun _=>by first|rfl|omega) (fun _=>by omega)) ?_;refine Z_4 ?_;refine Zrb ([_,_]) ?_;rw[hil,ot (f:=BA.cells) (sz:=4) Zrf,hT,←hr];exact⟨rfl,rfl⟩
theorem idxK_ok{ρ:Type}(Y:ρ→bJ)(ok:ρ→Prop)(step:ρ→Ky→ρ)(D:Ky→Bool)(f:FuncId)(caps:List Value)(HF:∀args w,(callFunc f args).run prog w= .ok (.enter f args) w)(l:List Ky)(hl:l.length≤1000000)
  (HC:∀(r:ρ) (x:Ky) (w:World),ok r→x∈l→Inv w (bK [Y r]) [Y r] w→Ctr prog f ([]++[.agg (cH x).toArray]++caps) w [Y r] (fun v cs=>v= .bool (D x)∧cs=[Y (step r x)]∧ok (step r x)))
  (A:Option Addr) (c:Nat) (r0:ρ) (hok:ok r0) (w:World) (hi:Inv w (bK [slv 83 2 A l.length c (l.flatMap cH),Y r0]) [slv 83 2 A l.length c (l.flatMap cH),Y r0] w):
  Ctr prog 135 [.slice A l.length c,.func (.func f) #[] caps.toArray] w [slv 83 2 A l.length c (l.flatMap cH),Y r0] (fun v cs=>∃r',v= .int .i64 (BF (l.findIdx? D))∧r'=(l.take (idxN l.length (l.findIdx? D))).foldl step r0∧ok r'∧cs=[slv 83 2 A l.length c (l.flatMap cH),Y r']):=by
 refine bL func135 rfl ntmps135 rfl hi ?_;refine ic ?_;refine cJ (fun q:Nat×ρ=>[(0,.slice A l.length c),(1,.func (.func f) #[] caps.toArray),(7,.int .i64 (l.length:Int)),(8,.int .i64 (q.1:Int))]) (fun q=>[slv 83 2 A l.length c (l.flatMap cH),Y q.2]) (fun q=>(q.1≤l.length∧q.2=(l.take q.1).foldl step r0∧ok q.2)∧l.findIdx? D=((l.drop q.1).findIdx? D).map (· +q.1)) (fun q=>l.length - q.1) (⟨0,r0⟩) ?_ ?_ ?_ ?_
 ·exact⟨⟨aw _,rfl,hok⟩,by simp⟩
 ·exact Zwk
 ·exact Zu
 rintro⟨j,r⟩ ⟨⟨hj,hr,hrk⟩,hf⟩;dsimp only at hj hr hrk hf⊢;refine Z_6 ?_;refine ZW ?_ ?_<;>intro hc2
 ·simp only[ap]at hc2;have hjl:j<l.length:=(by omega);obtain⟨bs,rfl⟩:=hI (hi.get (show Has _ (slv 83 2 A l.length c (l.flatMap cH))from Zh)) (by omega);obtain⟨x,hx⟩:∃x,l[j]? =some x:=⟨_,ak hjl⟩;rw[oF hx,List.findIdx?_cons]at hf;refine qp ?_;refine Zy (cI (bb:=bs) (o:=0) (n:=l.length) (c:=c) (j:=j) (sz:=2) (r:=j*2) rfl Zrf (Zv rfl) (Zv rfl) Zrf (fun _=>by omega) (by omega)) ?_;refine dU (cC (vs:=cH x) Zrf Zrf Zv0) (lJ Zh (fun i v hiv=>fF (f:=cH) Zrf hx hiv)) rfl ?_;refine dM (fx ([Y r]) rfl rfl HF Zi (fun w hi hin=>HC r x w hrk (aK hx) hin)) rfl ?_;rintro _ _ ⟨_,⟨rfl,rfl,hrk2⟩,rfl⟩;obtain⟨r2,hr2⟩:=Zgn (step r x);rw[hr2]at hrk2⊢;have hr3:r2=(l.take (j+1)).foldl step r0:=(by rw[←hr2,hr,nK hx]);refine Z_2 ?_;refine ZW ?_ ?_<;>intro hc4
  ·rw[hc4,if_pos rfl]at hf;have hf:l.findIdx? D=some j:=(by rw[hf];simp);rw[hf];refine gK ?_;refine bQ [slv 83 2 (some ⟨bs,0,none⟩) l.length c (l.flatMap cH),Y r2] Zj ?_;refine Zrb ([_,_]) ?_;exact⟨r2,rfl,hr3,hrk2,rfl⟩
  rw[hc4,if_neg (by simp)]at hf;refine Z_4 ?_;refine Zy (cF Zv0 Zv0 Zl) ?_;refine Z_2 ?_;refine cz ((⟨j+1,r2⟩:Nat×ρ)) ?_ ?_ ?_
  ·exact⟨⟨⟨by omega,hr3,hrk2⟩,by dsimp only;rw[hf,Option.map_map];congr 1;funext z;simp only[Function.comp];omega⟩,by dsimp only;omega⟩
  ·exact Zwk
  exact Zj
 simp only[aj]at hc2;obtain rfl:j=l.length:=(by omega);rw[List.drop_length]at hf;have hf:l.findIdx? D=none:=hf;rw[hf];refine eo ?_;refine Zrb ([_,_]) ?_;exact⟨r,rfl,by rw[bA]at hr;show r=(l.take l.length).foldl step r0;rw[bA];exact hr,hrk,rfl⟩
theorem delK_ok{ρ:Type}(Y:ρ→bJ)(ok:ρ→Prop)(step:ρ→Ky→ρ)(D:Ky→Bool)(f:FuncId)(caps:List Value)(HF:∀args w,(callFunc f args).run prog w= .ok (.enter f args) w)(l:List Ky)(hl:l.length≤1000000)
  (HC:∀(r:ρ) (x:Ky) (w:World),ok r→x∈l→Inv w (bK [Y r]) [Y r] w→Ctr prog f ([]++[.agg (cH x).toArray]++caps) w [Y r] (fun v cs=>v= .bool (D x)∧cs=[Y (step r x)]∧ok (step r x)))
  (A:Option Addr) (c:Nat) (r0:ρ) (hok:ok r0) (w:World) (hi:Inv w (bK [slv 83 2 A l.length c (l.flatMap cH),Y r0]) [slv 83 2 A l.length c (l.flatMap cH),Y r0] w):
  Ctr prog 106 [.slice A l.length c,.func (.func f) #[] caps.toArray] w [slv 83 2 A l.length c (l.flatMap cH),Y r0] (fun v cs=>v= .slice A (l.filter fun x=> !D x).length c∧cs=[slv 83 2 A (l.filter fun x=> !D x).length c ((l.filter fun x=> !D x).flatMap cH),Y (l.foldl step r0)]):=by
 have HI:=idxK_ok Y ok step D f caps HF l hl HC A c r0 hok;have hcap:=(hi.rd (.head (slv 83 2 A l.length c (l.flatMap cH)) _)).cap;have hfn:=r7 (D:=D) (l:=l);have hfs:=fun i=>pt (D:=D) (l:=l) (i:=i)
 obtain⟨o,ho⟩:=Zgn (l.findIdx? D);rw[ho]at HI hfn hfs;refine bL func106 rfl ntmps106 rfl hi ?_;refine Z_9 ?_;refine ZcL ([slv 83 2 A l.length c (l.flatMap cH),Y r0]) (fun w hi hin=>HI w hin) ?_;rintro _ _ ⟨_,⟨r1,rfl,hr1,hok1,rfl⟩,rfl⟩;refine eK ?_;refine ZW ?_ ?_<;>intro hc2
 ·obtain rfl:=zl hc2;obtain⟨hf1,hf2⟩:=hfn rfl;refine Z_8 ?_;refine Zrb ([_,_]) ?_;rw[hf1];have hr1:r1=(l.take l.length).foldl step r0:=hr1;rw[bA]at hr1;rw[←hr1];exact⟨rfl,rfl⟩
 obtain⟨i0,rfl⟩:=zk hc2;obtain⟨hf1,hf2,hf3⟩:=hfs i0 rfl;obtain⟨bs,rfl⟩:=hI (hi.get (show Has _ (slv 83 2 A l.length c (l.flatMap cH))from Zh)) (by omega);refine Z_6 ?_;refine Zy (cF (Zv rfl) (Zv rfl) (show _=((i0+1:Nat):Int)from by rw[show BF (some i0)=(i0:Int)from rfl,bI];omega)) ?_;refine Z_4 ?_;refine cJ (fun q:(Nat×Nat)×List Ky×ρ=>[(0,.slice (some ⟨bs,0,none⟩) l.length c),(1,.func (.func f) #[] caps.toArray),(5,.int .i64 (q.1.1:Int)),(6,.int .i64 (q.1.2:Int))]) (fun q=>[slv 83 2 (some ⟨bs,0,none⟩) l.length c (q.2.1.flatMap cH),Y q.2.2]) (fun q=>(q.2.2=(l.take q.1.2).foldl step r0∧ok q.2.2)∧q.1.1<q.1.2∧q.1.2≤l.length∧q.2.1.length=l.length∧q.2.1.drop q.1.2=l.drop q.1.2∧q.2.1.take q.1.1++(l.drop q.1.2).filter (fun x=> !D x)=l.filter (fun x=> !D x)) (fun q=>l.length - q.1.2) (⟨(i0,i0+1),l,r1⟩) ?_ ?_ ?_ ?_
 ·exact⟨⟨hr1,hok1⟩,Nat.lt_succ_self _,by dsimp only;omega,rfl,rfl,hf2⟩
 ·exact Zwk
 ·exact Zu
 rintro⟨⟨i,j⟩,V,r⟩ ⟨⟨hr,hrk⟩,hij,hj,hV,hVd,hT⟩;dsimp only at hr hrk hij hj hV hVd hT⊢;refine Z_9 ?_;refine ZW ?_ ?_<;>intro hc5
 ·simp only[ap]at hc5;have hjl:j<l.length:=(by omega);obtain⟨x,hx⟩:∃x,l[j]? =some x:=⟨_,ak hjl⟩;have hVx:V[j]? =some x:=(by have:=congrArg (fun z=>z[0]?) hVd;simp only[List.getElem?_drop,Nat.add_zero]at this;rw[this,hx]);rw[oF hx]at hT;rw[oF hx,oF hVx,List.cons.injEq]at hVd;rw[List.filter_cons]at hT;refine Z_8 ?_;refine Zy (cI (bb:=bs) (o:=0) (n:=l.length) (c:=c) (j:=j) (sz:=2) (r:=j*2) rfl Zrf (Zv rfl) (Zv rfl) Zrf (fun _=>by omega) (by omega)) ?_;refine dU (cC (vs:=cH x) Zrf Zrf Zv0) (lJ Zh (fun i v hiv=>fF (f:=cH) Zrf hVx hiv)) rfl ?_;refine ZN fun b7=>?_
  refine dz (cq Zrf rfl rfl (rL x) Za (by exact rfl)) ?_;rintro _ _ ⟨rfl,rfl⟩;refine Z_6 ?_;refine dM (fx ([Y r]) rfl rfl HF Zi (fun w hi hin=>HC r x w hrk (aK hx) hin)) rfl ?_;rintro _ _ ⟨_,⟨rfl,rfl,hrk2⟩,rfl⟩;obtain⟨r2,hr2⟩:=Zgn (step r x);rw[hr2]at hrk2⊢;have hr3:r2=(l.take (j+1)).foldl step r0:=(by rw[←hr2,hr,nK hx]);refine Z_3 ?_;refine ZW ?_ ?_<;>intro hc8
  ·have hD:D x=false:=(by simpa using hc8);rw[hD]at hT;simp only[Bool.not_false,if_true]at hT;refine Z_5 ?_;refine Zy (cI (bb:=bs) (o:=0) (n:=l.length) (c:=c) (j:=i) (sz:=2) (r:=i*2) rfl Zrf (Zv rfl) (Zv rfl) Zrf (fun _=>by omega) (by omega)) ?_;refine dz (qW (sz:=2) (n:=l.length) (vs:=cH x) Zrf rfl rfl (rL x) Za rfl (by omega)) ?_;rintro _ _ ⟨rfl,rfl⟩;rw[u7 (f:=cH) (sz:=2) Zrf (show i<V.length by omega)];refine Z_4 ?_;refine Zy (cF Zv0 Zv0 Zl) ?_;refine Z_6 ?_;refine Zy (cF Zv0 Zv0 Zl) ?_;refine Z_2 ?_;refine cz ((⟨(i+1,j+1),V.set i x,r2⟩:(Nat×Nat)×List Ky×ρ)) ?_ ?_ ?_
   ·exact⟨⟨⟨hr3,hrk2⟩,by dsimp only;omega,by dsimp only;omega,by dsimp only;rw[aL,hV],by dsimp only;rw[List.drop_set_of_lt (by omega),hVd.2],by dsimp only;rw[List.take_succ_eq_append_getElem (by rw[aL];omega),List.take_set_of_le (aQ _),List.getElem_set_self,aq];exact hT⟩,by dsimp only;omega⟩
   ·exact Zwk
   exact Zj
  have hD:D x=true:=(by simpa using hc8);rw[hD]at hT;simp only[Bool.not_true,Bool.false_eq_true,if_false]at hT;refine Z_5 ?_;refine Zy (cF Zv0 Zv0 Zl) ?_;refine Z_2 ?_;refine cz ((⟨(i,j+1),V,r2⟩:(Nat×Nat)×List Ky×ρ)) ?_ ?_ ?_
  ·exact⟨⟨⟨hr3,hrk2⟩,by dsimp only;omega,by dsimp only;omega,hV,hVd.2,hT⟩,by dsimp only;omega⟩
  ·exact Zwk
  exact Zj
 simp only[aj]at hc5;obtain rfl:j=l.length:=(by omega);rw[List.drop_length]at hT;rw[List.filter_nil,ay]at hT;rw[bA]at hr;have hil:(l.filter fun x=> !D x).length=i:=(by rw[←hT,az];omega);refine Z_9 ?_;refine Zy (kO (bb:=bs) (o:=0) (n:=l.length) (c:=c) (lo:=i) (hi:=l.length) (r:=0+i*2) (sz:=2) rfl Zrf (Zv rfl) (.inr ⟨_,_,rfl,(Zv rfl)⟩) (.inl ⟨rfl,rfl⟩) (by omega) (by omega) (by omega) (by omega)) ?_;refine BP (c:=slv 83 2 (some ⟨bs,0,none⟩) l.length c (V.flatMap cH)) (c':=slv 83 2 (some ⟨bs,0,none⟩) i c ((V.flatMap cH).take (i*2))) Za rfl (yQ (by omega)) ?_
 refine dz (vF rfl Za rfl Zrf (sz:=2) rfl rfl (by decide) (by intro u hu;simp only[aM,a9,or_false]at hu;rcases hu with rfl|rfl<;>rfl) (by omega) (by omega)) ?_;rintro _ _ ⟨rfl,rfl⟩;refine Z_6 ?_;refine Zy (gL i rfl Zrf (Zv rfl) (Zv rfl) (fun _=>by first|rfl|omega) (fun _=>by omega)) ?_;refine Z_4 ?_;refine Zrb ([_,_]) ?_;rw[hil,ot (f:=cH) (sz:=2) Zrf,hT,←hr];exact⟨rfl,rfl⟩
end Go.Proofs.YtomjgmbccamgiaaGreatDoor
namespace Go.Ink
open Go.RowKit
structure LS where
 A:Option Addr
 c:Nat
 ks:List Ky
def LS.v(x:LS):Value:= .slice x.A x.ks.length x.c
def LS.zero:LS:=⟨none,0,[]⟩
def lkV(LK:List (Ky×LS)):List (Ky×Value):=LK.map fun x=>(x.1,x.2.v)
structure CaX where
 ml:Nat
 Ac:Option Addr
 cc:Nat
 fl:Int
 LK:List (Ky×LS)
 Z:List BA
def BaSm(Z:List BA):Prop:=Z.length≤1000000∧∀x,x∈Z→x.b.code.length≤100000∧ko x.b.key
def kG(k:Ky)(x:LS):LS:=⟨x.A,x.c,x.ks.filter fun q=> !(q==k)⟩
def gv(LK:List (Ky×LS))(k:Ky):List (Ky×LS):=(nU LK k).map fun x=>(x.1,kG k x.2)
def uJ(k:Ky)(f:Bool)(x:Ky×LS):Ky×LS:=(x.1,bif f then kG k x.2 else x.2)
def prL(k:Ky)(F:List Bool)(L0:List (Ky×LS)):List (Ky×LS):=List.zipWith (uJ k) F L0
def itL(k:Ky)(F:List Bool)(L0:List (Ky×LS)):List (Bool×Ky×Value):=List.zipWith (fun f x=>(f,x.1,(uJ k f x).2.v)) F L0
theorem FM{α β:Type}(f:α→β)(L:List (Ky×α))(k:Ky):nU (L.map fun x=>(x.1,f x.2)) k=(nU L k).map fun x=>(x.1,f x.2):=by
 unfold nU;rw[jy (key:=fun x:Ky×α=>x.1) (fun x:Ky×α=>(x.1,f x.2)) Zrf];cases cX (fun x:Ky×α=>x.1) k L with
 |some j=>dsimp only;rw[ChangeMaps.map_eraseIdx]
 |none=>rfl
theorem qw{α:Type}(L:List (Ky×α))(k:Ky):(nU L k).Sublist L:=by
 unfold nU;cases cX (fun x:Ky×α=>x.1) k L with
 |some j=>exact List.eraseIdx_sublist _ _
 |none=>exact aI _
theorem wA(k:Ky):∀L0:List (Ky×LS),itL k (List.replicate L0.length false) L0=(lkV L0).map fun x=>(false,x)
 |[]=>rfl
 |x::L0=>by
  show(false,x.1,(uJ k false x).2.v)::itL k (List.replicate L0.length false) L0=_;rw[wA k L0]
  rfl
theorem vX(k:Ky):∀L0:List (Ky×LS),prL k (List.replicate L0.length false) L0=L0
 |[]=>rfl
 |x::L0=>by
  show uJ k false x::prL k (List.replicate L0.length false) L0=_;rw[vX k L0]
  rfl
theorem itL_at{k:Ky}{F:List Bool}{L0:List (Ky×LS)}{j:Nat}{q:Ky}{v:Value}(h:(itL k F L0)[j]? =some (false,q,v)):∃x,L0[j]? =some x∧F[j]? =some false∧q=x.1∧v=x.2.v:=by
 unfold itL at h;rw[List.getElem?_zipWith]at h;cases hf:F[j]? with
 |none=>rw[hf]at h;cases h
 |some f=>
  cases hx:L0[j]? with
  |none=>rw[hf,hx]at h;cases h
  |some x=>
   rw[hf,hx]at h;simp only[aU,aX]at h;obtain⟨rfl,rfl,rfl⟩:=h;exact⟨x,rfl,rfl,rfl,rfl⟩
theorem xm{α β γ:Type}(g:α→β→γ):∀(F:List α) (L:List β) (j:Nat) (a:α) (b:β),L[j]? =some b→List.zipWith g (F.set j a) L=(List.zipWith g F L).set j (g a b)
 |[],L,j,a,b,_=>by simp
 |f::F,[],j,a,b,h=>by simp at h
 |f::F,x::L,0,a,b,h=>by
  obtain rfl:x=b:=by simpa using h
  rfl
 |f::F,x::L,j+1,a,b,h=>by
  show g f x::List.zipWith g (F.set j a) L=g f x::(List.zipWith g F L).set j (g a b);rw[xm g F L j a b (by simpa using h)]
theorem Dz{k:Ky}:∀{F:List Bool} {L0:List (Ky×LS)},F.length=L0.length→(∀x,x∈itL k F L0→x.1=true)→prL k F L0=L0.map fun x=>(x.1,kG k x.2)
 |[],[],_,_=>rfl
 |[],_::_,h,_=>by simp at h
 |_::_,[],h,_=>by simp at h
 |f::F,x::L0,h,ha=>by
  have hf:f=true:=ha (f,x.1,(uJ k f x).2.v) (List.mem_cons_self ..);subst hf;show uJ k true x::prL k F L0=_;rw[Dz (by simpa using h) (fun y hy=>ha y (bC _ hy))]
  rfl
theorem Dy(k:Ky):∀(F:List Bool) (L0:List (Ky×LS)),(itL k F L0).map (·.2)=lkV (prL k F L0)
 |[],L0=>by simp[itL,prL,lkV]
 |f::F,[]=>by simp[itL,prL,lkV]
 |f::F,x::L0=>by
  show(x.1,(uJ k f x).2.v)::(itL k F L0).map (·.2)=((uJ k f x).1,(uJ k f x).2.v)::lkV (prL k F L0);rw[Dy k F L0]
  rfl
def wR(F:List Bool):Nat:=(F.filter fun f=> !f).length
theorem tS:∀{F:List Bool} {j:Nat},F[j]? =some false→wR (F.set j true)<wR F
 |[],j,h=>by simp at h
 |f::F,0,h=>by
  obtain rfl:f=false:=by simpa using h
  simp[wR]
 |f::F,j+1,h=>by
  have:=tS (F:=F) (j:=j) (by simpa using h);unfold wR at this⊢;rw[List.set_cons_succ,List.filter_cons,List.filter_cons];cases f<;>simp<;>exact this
theorem mF{α:Type}{l:List α}{j:Nat}{x:α}(h:l[j]? =some x):l.Perm (x::l.eraseIdx j):=by
 obtain⟨h1,rfl⟩:=au.1 h;rw[List.eraseIdx_eq_take_drop_succ];refine List.Perm.trans ?_ List.perm_middle;rw[List.getElem_cons_drop h1,List.take_append_drop]
theorem qz{α:Type}{l:List α}{j:Nat}{x:α}(h:j<l.length):(l.set j x).Perm (x::l.eraseIdx j):=by
 have h1:=mF (l:=l.set j x) (j:=j) (x:=x) (by rw[List.getElem?_set_self h]);rwa[List.eraseIdx_set_eq]at h1
theorem pu{α:Type}{key:α→Ky}{k:Ky}{l:List α}{j:Nat}(h:cX key k l=some j):∃x,l[j]? =some x∧key x=k∧l.find? (fun x=>key x==k)=some x:=by
 obtain⟨hj,hk⟩:=fp h;refine⟨l[j],ak hj,hk,?_⟩;unfold cX at h;rw[List.findIdx?_eq_some_iff_getElem]at h;obtain⟨_,h1,h2⟩:=h;rw[List.find?_eq_some_iff_getElem];exact⟨h1,j,hj,rfl,fun i hi=>by simpa using h2 i hi⟩
theorem rZ{α:Type}{key:α→Ky}{k:Ky}{l:List α}(h:cX key k l=none):l.find? (fun x=>key x==k)=none:=by
 rw[List.find?_eq_none];exact fun x hx e=>ik h x hx (by simpa using e)
section
variable {C:Cx} {Q:kM} {fr:Fr} {cs:List bJ} {c:bJ} {cin cin' rest r1:List bJ} {e:Exit} {b r:Nat} {IL:List (Bool×Ky×Value)} {cur:Option (Ky×Value)}
theorem vU(hd:Del cs (dw cin) rest)(hp:cin.Perm (c::cin'))(h:QOk C Q e fr (c::dw cin'::rest)):QOk C Q e fr cs:=fun a w hf hi=>h a w hf ((hi.perm hd.perm).Jf hp)
theorem iR(hd:Del cs (dw cin) r1)(hd2:Del r1 c rest)(hp:cin'.Perm (c::cin))(h:QOk C Q e fr (dw cin'::rest)):QOk C Q e fr cs:=fun a w hf hi=>h a w hf (((hi.perm (hd.perm.trans (hd2.perm.cons _))).perm (List.Perm.swap ..)).JB hp)
theorem jI(hd:Del cs (dw cin) rest)(hs:cin'.Sublist cin)(h:QOk C Q e fr (dw cin'::rest)):QOk C Q e fr cs:=fun a w hf hi=>h a w hf ((hi.perm hd.perm).JA hs)
theorem vV(hd:Del cs (itC b r IL cur) rest)(h:QOk C Q e fr (mpc b (IL.map (·.2))::rest)):QOk C Q e fr cs:=fun a w hf hi=>h a w hf ((hi.perm hd.perm).itEnd)
theorem DC(w:World):Inv w [] [dw []] w:=⟨dQ.refl _ _,by simp[bK,dw,exC,bJ.bs],fun c hc=>by
 rw[aN]at hc;subst hc;exact⟨(),trivial,by simp[bK],fun c hc=>by cases hc⟩,fun b hb=>by simp[bK,dw,exC,bJ.bs]at hb⟩
theorem ny{ops:Array Oper}{l:List Oper}(h:WL C ops Q l fr (cs++[dw []])):WL C ops Q l fr cs:=fun a w hf hi=>h a w hf (hi.more (DC w))
end
end Go.Ink
namespace Go.Proofs.YtomjgmbccamgiaaGreatDoor
open Go.RowKit Go.Ink Go.Proofs.Tryz
attribute [local irreducible] OpY bW
abbrev lsC(x:LS):bJ:=slv 83 2 x.A x.ks.length x.c (x.ks.flatMap cH)
abbrev baC(x:BA):bJ:=sl .u8 5 x.A (cO x.b.code).length x.c (cO x.b.code)
def lkC(LK:List (Ky×LS)):List bJ:=LK.map fun x=>lsC x.2
abbrev kyR(b:Nat)(k:Ky):bJ:=row b (cH k) 83
abbrev caR(bc:Nat)(r0 r1 r2 r3:Value):bJ:=row bc [r0,r1,r2,r3] 154
abbrev blC(X:CaX):bJ:=slv 173 4 X.Ac X.Z.length X.cc (X.Z.flatMap BA.cells)
abbrev caF(bc:Nat)(room:Int)(X:CaX):List bJ:=[caR bc (.int .i64 room) (.slice X.Ac X.Z.length X.cc) (.map (some X.ml)) (.int .i64 X.fl),blC X,dw (X.Z.map baC),mpc X.ml (lkV X.LK),dw (lkC X.LK)]
theorem CV(x:BA)(k:Ky)(bk:Nat)(w:World)(hi:Inv w (bK [kyR bk k]) [kyR bk k] w):
  Ctr prog 136 ([]++[.agg x.cells.toArray]++[.pointer (some ⟨bk,0,none⟩)]) w [kyR bk k] (fun v cs=>v= .bool (x.key==k)∧cs=[kyR bk k]∧True):=by
 refine bL func136 rfl ntmps136 rfl hi ?_;refine Z_2 ?_;refine ZO fun b2=>?_;refine Z_6 ?_;refine dU (cC (vs:=cH x.b.key) Zrf Zrf Zv0) (cL Zh rfl) rfl ?_;refine ZlR ?_;refine Zy (BL rM (ye x.b.key k) (Zv rfl) (Zv rfl)) ?_;refine Z_4 ?_;refine bQ [kyR bk k] Zj ?_;refine Zrb ([row _ _ _]) ?_;exact⟨rfl,rfl,trivial⟩
theorem sh(bc:Nat)(r0 r2 r3:Value)(Ac:Option Addr)(cc:Nat)(Z:List BA)(hZ:Z.length≤1000000)(k:Ky)(w:World)(hi:Inv w (bK [caR bc r0 (.slice Ac Z.length cc) r2 r3,slv 173 4 Ac Z.length cc (Z.flatMap BA.cells)]) [caR bc r0 (.slice Ac Z.length cc) r2 r3,slv 173 4 Ac Z.length cc (Z.flatMap BA.cells)] w):
  Ctr prog 108 [.pointer (some ⟨bc,0,none⟩),.agg (cH k).toArray] w [caR bc r0 (.slice Ac Z.length cc) r2 r3,slv 173 4 Ac Z.length cc (Z.flatMap BA.cells)] (fun v cs=>v= .int .i64 (BF (cX BA.key k Z))∧cs=[caR bc r0 (.slice Ac Z.length cc) r2 r3,slv 173 4 Ac Z.length cc (Z.flatMap BA.cells)]):=by
 refine bL func108 rfl ntmps108 rfl hi ?_;refine Z_2 ?_;refine ZO fun b3=>?_;refine Z_9 ?_;refine Zy (kP rfl) ?_;refine ZcL ([slv 173 4 Ac Z.length cc (Z.flatMap BA.cells),kyR b3 k]) (fun w hi hin=>DH (fun _:Unit=>kyR b3 k) (fun _=>True) (fun _ _=>()) (fun x=>x.key==k) 136 [.pointer (some ⟨b3,0,none⟩)] (fun _ _=>rfl) Z hZ (fun _ x w _ _ hin=>CV x k b3 w hin) Ac cc () trivial w hin) ?_;rintro _ _ ⟨_,⟨_,rfl, -, -,rfl⟩,rfl⟩;refine Z_4 ?_;refine bQ [caR bc r0 (.slice Ac Z.length cc) r2 r3,slv 173 4 Ac Z.length cc (Z.flatMap BA.cells)] Zj ?_;refine Zrb ([_,_]) ?_;exact⟨rfl,rfl⟩
def FindK(o:Option BA)(F:List bJ)(v:Value)(cs:List bJ):Prop:=match o with
 |none=>v= .tuple #[.agg #[.int .u32 0,.int .u32 0,.slice none 0 0,.int .i64 0],.bool false]∧cs=F
 |some x=>∃A' c',v= .tuple #[.agg (BA.cells ⟨x.b,A',c'⟩).toArray,.bool true]∧cs=baC ⟨x.b,A',c'⟩::F
theorem zK(bc:Nat)(room:Int)(X:CaX)(hS:BaSm X.Z)(k:Ky)(w:World)(hi:Inv w (bK (caF bc room X)) (caF bc room X) w):
  Ctr prog 84 [.pointer (some ⟨bc,0,none⟩),.agg (cH k).toArray] w (caF bc room X) (fun v cs=>FindK (X.Z.find? fun x=>x.key==k) (caF bc room X) v cs):=by
 have hZ:=hS.1;have HP:=sh bc (.int .i64 room) (.map (some X.ml)) (.int .i64 X.fl) X.Ac X.cc X.Z hZ k;obtain⟨o,ho⟩:=Zgn (cX BA.key k X.Z);rw[ho]at HP;refine bL func84 rfl ntmps84 rfl hi ?_;refine Z_2 ?_;refine ZO fun b3=>?_;refine ZN fun b4=>?_
 refine Z_7 ?_;refine ZcM ([caR bc (.int .i64 room) (.slice X.Ac X.Z.length X.cc) (.map (some X.ml)) (.int .i64 X.fl),blC X]) (fun w hi hin=>HP w hin) ?_;refine eK ?_;refine ZW ?_ ?_<;>intro hc2
 ·obtain rfl:o=none:=(by cases o with|none=>rfl|some j=>(have h9:((j:Nat):Int)<0:=of_decide_eq_true hc2;omega));rw[rZ ho];refine Z_2 ?_;refine Zy (iw (vs:=[Value.int .u32 0,.int .u32 0,.slice none 0 0,.int .i64 0]) Zk (.inl ⟨_,rfl,rfl⟩)) ?_;refine ZM ?_;refine Z_5 ?_;refine bQ (row b4 _ _::caF bc room X) Zj ?_;refine ee (cs':=caF bc room X) (.inl rfl) (List.Sublist.cons _ (aI _)) rfl rfl rfl Zh Zrf Zrf ?_;exact⟨rfl,rfl⟩
 obtain⟨j,rfl⟩:∃j,o=some j:=(by cases o with|none=>simp[BF]at hc2|some j=>exact⟨j,rfl⟩);obtain⟨x,hx,hxk,hxf⟩:=pu ho;rw[hxf];have hjl:=(au.1 hx).1;obtain⟨bs,hbs⟩:=hI (hi.get (.tail _ (.head (blC X) _))) (show 0<X.Z.length by omega);have hxr:∀w0 S cs w,Ink.Inv w0 S cs w→Has cs (dw (X.Z.map baC))→Rd w .u8 x.A (cO x.b.code).length x.c (cO x.b.code):=(fun w0 S cs w h hh=>dq (h.joinGet hh (bh.2 ⟨x,aK hx,rfl⟩)));have hxl:(cO x.b.code).length≤140737488355328:=(by rw[iW];have:=(hS.2 x (aK hx)).1;omega);refine Z_9 ?_;refine Zy (cI (bb:=bs) (o:=0) (n:=X.Z.length) (c:=X.cc) (j:=j) (sz:=4) (r:=j*4) rfl Zrf (hbs▸pY rfl) (Zv rfl) Zrf (fun _=>by omega) (by omega)) ?_;refine dU (cC (vs:=BA.cells x) Zrf Zrf (Zv rfl)) (lJ (n:=X.Z.length) (c:=X.cc) (sz:=4) (e:=173) (xs:=X.Z.flatMap BA.cells) (hbs▸(show Has _ (blC X)from Zh)) (fun i v hiv=>fF (f:=BA.cells) Zrf hx hiv)) rfl ?_;refine ZN fun b7=>?_
 refine dz (cq Zrf rfl rfl (fP x) Za (by exact rfl)) ?_;rintro _ _ ⟨rfl,rfl⟩;refine Z_6 ?_;refine ZS (fun w hi=>sr x.A (cO x.b.code).length x.c (cO x.b.code) w (hxr _ _ _ _ hi Zh) hxl) ?_;rintro _ _ ⟨_,⟨A9,c9,rfl,rfl⟩,rfl⟩;refine Z_1 ?_;refine ZL ?_;refine Z_5 ?_;refine ZM ?_;refine Z_4 ?_;refine bQ (row b4 _ _::baC ⟨x.b,A9,c9⟩::caF bc room X) Zj ?_;refine ee (cs':=baC ⟨x.b,A9,c9⟩::caF bc room X) (.inl rfl) (List.Sublist.cons _ (aI _)) rfl rfl rfl Zh Zrf Zrf ?_;exact⟨A9,c9,rfl,rfl⟩
theorem Aj(x k:Ky)(bk:Nat)(w:World)(hi:Inv w (bK [kyR bk k]) [kyR bk k] w):
  Ctr prog 107 ([]++[.agg (cH x).toArray]++[.pointer (some ⟨bk,0,none⟩)]) w [kyR bk k] (fun v cs=>v= .bool (x==k)∧cs=[kyR bk k]∧True):=by
 refine bL func107 rfl ntmps107 rfl hi ?_;refine Z_2 ?_;refine ZO fun b2=>?_;refine Z_7 ?_;refine Zy (BL rM (ye x k) (Zv rfl) (Zv rfl)) ?_;refine Z_4 ?_;refine bQ [kyR bk k] Zj ?_;refine Zrb ([row _ _ _]) ?_;exact⟨rfl,rfl,trivial⟩
def LkSm(LK:List (Ky×LS)):Prop:=∀x,x∈LK→ko x.1∧x.2.ks.length≤1000000
theorem vz(bc ml:Nat)(r0 r1 r3:Value)(LK:List (Ky×LS))(hsm:LkSm LK)(k:Ky)(hk:ko k)(w:World)(hi:Inv w (bK [caR bc r0 r1 (.map (some ml)) r3,mpc ml (lkV LK),dw (lkC LK)]) [caR bc r0 r1 (.map (some ml)) r3,mpc ml (lkV LK),dw (lkC LK)] w):
  Ctr prog 81 [.pointer (some ⟨bc,0,none⟩),.agg (cH k).toArray] w [caR bc r0 r1 (.map (some ml)) r3,mpc ml (lkV LK),dw (lkC LK)] (fun _ cs=>cs=[caR bc r0 r1 (.map (some ml)) r3,mpc ml (lkV (gv LK k)),dw (lkC (gv LK k))]):=by
 obtain⟨L0,hL0⟩:=Zgn (nU LK k);have hU:gv LK k=L0.map fun x=>(x.1,kG k x.2):=by unfold gv;rw[hL0]
 have hd:nU (lkV LK) k=lkV L0:=by rw[←hL0];exact FM LS.v LK k
 have hsub:(lkC L0).Sublist (lkC LK):=by rw[←hL0];exact(qw LK k).map _
 have hs0:LkSm L0:=fun x hx=>hsm x (by rw[←hL0]at hx;exact(qw LK k).subset hx)
 refine bL func81 rfl ntmps81 rfl hi ?_;refine Z_2 ?_;refine ZO fun b3=>?_;refine Z_3 ?_;refine cj ⟨fun j=>List.elem j [5],[]⟩ Zk ?_;refine ZE 0 ?_;refine ZE 1 ?_;refine ZFe 2 2 ?_;refine ZG 3 ?_;refine ZI 4 ?_;refine cE 5 Zk ?_;refine dC rfl rfl (t_mdel rfl rfl hk rfl wx Za) ZJ ?_;rintro _ _ ⟨rfl,rfl⟩;rw[hd];refine bO Zk ?_;refine Z_3 ?_;refine sV (cin':=lkC (prL k (List.replicate L0.length false) L0)) Zd (by rw[vX];exact hsub) ?_;refine Z_4 ?_;refine dM (yL rfl rfl Za) rfl ?_;rintro _ _ ⟨b15,rfl,rfl⟩;rw[←wA k L0];refine Z_3 ?_;refine cJ (fun F:List Bool=>[(0,.pointer (some ⟨bc,0,none⟩)),(3,.pointer (some ⟨b3,0,none⟩)),(15,.pointer (some ⟨b15,0,none⟩))]) (fun F=>[dw (lkC (prL k F L0)),caR bc r0 r1 (.map (some ml)) r3,itC ml b15 (itL k F L0) none,kyR b3 k]) (fun F=>F.length=L0.length) (fun F=>wR F) (List.replicate L0.length false) ?_ ?_ ?_ ?_
 ·exact aO
 ·exact Zwk
 ·exact Zu
 rintro F hF;refine Z_2 ?_;refine dM (Cn rfl Za) rfl ?_;rintro _ _ ⟨o16,ho16,rfl,rfl⟩;refine Zy (BI Zv0) ?_;refine Z_3 ?_;refine ZW ?_ ?_<;>intro hc3
 ·obtain⟨⟨j,q,v⟩,rfl⟩:=Option.isSome_iff_exists.1 hc3;have hj0:(itL k F L0)[j]? =some (false,q,v):=ho16;have hjl:=(au.1 hj0).1;obtain⟨x,hx,hFj,rfl,rfl⟩:=itL_at hj0;have hjx:(lkC (prL k F L0))[j]? =some (lsC x.2):=(by unfold lkC prL;rw[bj,List.getElem?_zipWith,hFj,hx];rfl);have hjp:=(au.1 hjx).1;have hji:(xU (itL k F L0) (some (j,x.1,x.2.v)))[j]? =some (true,x.1,x.2.v):=(List.getElem?_set_self hjl);have hIT:((itL k F L0).set j (true,x.1,x.2.v)).set j (true,x.1,(kG k x.2).v)=itL k (F.set j true) L0:=(by rw[List.set_set];exact(xm _ F L0 j true x hx).symm);have hPR:(lkC (prL k (F.set j true) L0)).Perm (lsC (kG k x.2)::(lkC (prL k F L0)).eraseIdx j):=(by have e:lkC (prL k (F.set j true) L0)=(lkC (prL k F L0)).set j (lsC (kG k x.2)):=(by unfold lkC prL;rw[xm _ F L0 j true x hx,List.map_set];rfl);rw[e];exact qz hjp);refine Z_5 ?_;refine xp (c:=lsC x.2) (cin':=(lkC (prL k F L0)).eraseIdx j) Zd (mF hjx) ?_;refine dU (BN (Zv rfl)) (fun w hi=>(show vq ml b15 (xU (itL k F L0) (some (j,x.1,x.2.v))) (some (x.1,x.2.v)) w from hi.get (show Has _ (itC ml b15 (xU (itL k F L0) (some (j,x.1,x.2.v))) (C0 (some (j,x.1,x.2.v))))from Zh))) rfl ?_;refine Z_2 ?_;refine ZN fun b4=>?_
  refine dz (cq (vs:=cH x.1) Zrf rfl rfl (rL x.1) Za (by exact rfl)) ?_;rintro _ _ ⟨rfl,rfl⟩;refine Z_3 ?_;refine cj ⟨fun j=>List.elem j [7,8],rh bc [r0,r1,.map (some ml),r3]++rh b4 (cH x.1)⟩ Zk ?_;refine ZE 0 ?_;refine ZE 1 ?_;refine ZFe 2 2 ?_;refine iA 3 rfl Zk Zk Zk (bM Zrf (Zv rfl)) (by first|exact bZ rfl|exact aC _ (bZ rfl)|exact ah _ (bZ rfl)|exact ah _ (ah _ (aC _ (bZ rfl)))|exact ah _ (ah _ (ah _ (bZ rfl)))) (fO (bX (t:=154) Zh) (bX (t:=83) Zh)) rfl ?_;refine sX 4 rfl Zk Zk Zk (cC Zrf Zrf Zv0) (fun x hx=>ah _ (gb x hx)) (fO (bX (t:=154) Zh) (bX (t:=83) Zh)) rfl ?_;refine ZE 5 ?_;refine cR 6 rfl Zk Zk Zk (kP rfl) rfl ?_;refine cE 7 Zk ?_;refine gu rfl rfl (dR ([lsC x.2,kyR b3 k]) rfl (fun _ _=>rfl) Zi (fun w hi hin=>delK_ok (fun _:Unit=>kyR b3 k) (fun _=>True) (fun _ _=>()) (fun q=>q==k) 107 [.pointer (some ⟨b3,0,none⟩)] (fun _ _=>rfl) x.2.ks (hs0 x (aK hx)).2 (fun _ y w _ _ hin=>Aj y k b3 w hin) x.2.A x.2.c () trivial w hin)) (fun _=>by rintro _ _ ⟨_,⟨rfl,rfl⟩,rfl⟩;exact fO (bX (t:=154) Zh) (bX (t:=83) Zh)) rfl ?_;rintro _ _ ⟨_,⟨rfl,rfl⟩,rfl⟩;refine cE 8 Zk ?_;refine dC rfl rfl (t_itput hji rfl rfl rfl rfl wx Za) (fun _=>by rintro _ _ ⟨rfl,rfl⟩;exact fO (bX (t:=154) Zh) (bX (t:=83) Zh)) ?_;rintro _ _ ⟨rfl,rfl⟩;refine bO Zk ?_;refine Zo (iR (cin':=lkC (prL k (F.set j true) L0)) (c:=lsC (kG k x.2)) Zd Zd hPR ?_);refine j5 (c:=itC ml b15 (((itL k F L0).set j (true,x.1,x.2.v)).set j (true,x.1,(kG k x.2).v)) none) (c':=itC ml b15 (itL k (F.set j true) L0) none) Za rfl (fun w h=>by rw[←hIT];exact h) ?_
  refine cz ((F.set j true)) ?_ ?_ ?_
  ·exact⟨by rw[aL,hF],tS hFj⟩
  ·exact Zwk
  exact Zj
 obtain rfl:o16=none:=(by cases o16 with|none=>rfl|some z=>simp at hc3);have ho0:∀x,x∈itL k F L0→x.1=true:=ho16;refine Z_4 ?_;refine vV (IL:=itL k F L0) (cur:=none) (b:=ml) (r:=b15) Zd ?_;rw[Dy k F L0,Dz hF ho0];refine bQ [caR bc r0 r1 (.map (some ml)) r3,mpc ml (lkV (L0.map fun x=>(x.1,kG k x.2))),dw (lkC (L0.map fun x=>(x.1,kG k x.2)))] Zj ?_;refine fL (cs':=[caR bc r0 r1 (.map (some ml)) r3,mpc ml (lkV (L0.map fun x=>(x.1,kG k x.2))),dw (lkC (L0.map fun x=>(x.1,kG k x.2)))]) (.inr rfl) Zu rfl ?_;rw[hU]
end Go.Proofs.YtomjgmbccamgiaaGreatDoor
namespace Go.Ink
open Go.RowKit
def xf(keys:List Ky)(LK:List (Ky×LS)):Prop:=∀x,x∈LK→ko x.1∧x.2.ks.Nodup∧∀q,q∈x.2.ks→q∈keys
theorem wg:∀{l m:List Ky},l.Nodup→(∀x,x∈l→x∈m)→l.length≤m.length
 |[],m,_,_=>aw _
 |a::l,m,hn,hs=>by
  obtain⟨h1,h2⟩:=List.nodup_cons.1 hn;have hm:=hs a (List.mem_cons_self ..);have:=wg (l:=l) (m:=m.erase a) h2 (fun x hx=>(List.mem_erase_of_ne (fun e=>h1 (by rw[←e];exact hx))).2 (hs x (bC _ hx)));rw[List.length_erase_of_mem hm]at this;have hp:=List.length_pos_of_mem hm;simp only[ai];omega
structure oN(room:Int)(X:CaX):Prop where
 rm:1≤room∧room≤1024
 len:(X.Z.length:Int)≤room
 ba:∀x,x∈X.Z→x.b.code.length≤100000∧ko x.b.key
 lk:xf (X.Z.map BA.key) X.LK
theorem xf.sm{keys:List Ky}{LK:List (Ky×LS)}(h:xf keys LK)(hk:keys.length≤1000000):∀x,x∈LK→ko x.1∧x.2.ks.length≤1000000:=fun x hx=>⟨(h x hx).1,aY (wg (h x hx).2.1 (h x hx).2.2) hk⟩
theorem xf.unlink{keys:List Ky}{LK:List (Ky×LS)}(h:xf keys LK)(k:Ky):xf keys (gv LK k)∧∀x,x∈gv LK k→∀q,q∈x.2.ks→q≠k:=by
 refine⟨fun x hx=>?_,fun x hx q hq=>?_⟩
 ·obtain⟨y,hy,rfl⟩:=bh.1 hx;obtain⟨h1,h2,h3⟩:=h y ((qw LK k).subset hy);exact⟨h1,h2.filter _,fun q hq=>h3 q (List.mem_filter.1 hq).1⟩
 obtain⟨y,hy,rfl⟩:=bh.1 hx;have:=(List.mem_filter.1 hq).2;simpa using this
theorem xf.mono{keys keys':List Ky}{LK:List (Ky×LS)}(h:xf keys LK)(hs:∀q,q∈keys→q∈keys'):xf keys' LK:=fun x hx=>⟨(h x hx).1,(h x hx).2.1,fun q hq=>hs q ((h x hx).2.2 q hq)⟩
theorem Ah{LK:List (Ky×LS)}{k:Ky}{x:Ky×LS}(hx:x∈gv LK k):∃y,y∈LK∧∀q,q∈x.2.ks→q∈y.2.ks:=by
 obtain⟨y,hy,rfl⟩:=bh.1 hx;exact⟨y,(qw LK k).subset hy,fun q hq=>(List.mem_filter.1 hq).1⟩
theorem oN.sm{room:Int}{X:CaX}(h:oN room X):BaSm X.Z:=⟨by have:=h.len;have:=h.rm;omega,h.ba⟩
theorem oN.none{room:Int}(h:1≤room∧room≤1024)(ml:Nat)(A:Option Addr)(c:Nat)(fl:Int):oN room ⟨ml,A,c,fl,[],[]⟩:=
 ⟨h,(by show((0:Nat):Int)≤room;omega),(fun y hy=>nomatch hy),(fun y hy=>nomatch hy)⟩
theorem oN.set{room:Int}{X:CaX}(h:oN room X){j:Nat}{x t:BA}(hx:X.Z[j]? =some x)(hk:x.key=t.key)(ht:t.b.code.length≤100000∧ko t.b.key)(ml:Nat)(A:Option Addr)(c:Nat)(fl:Int):oN room ⟨ml,A,c,fl,gv X.LK t.key,X.Z.set j t⟩:=by
 have hjl:=(au.1 hx).1;have e9:(X.Z.set j t).map BA.key=X.Z.map BA.key:=by
  rw[List.map_set];apply List.ext_getElem?;intro i;rw[List.getElem?_set];by_cases hij:j=i
  ·subst hij;rw[if_pos rfl,if_pos (by simpa using hjl),bj,hx,←hk]
   rfl
  rw[if_neg hij]
 refine⟨h.rm,by dsimp only;rw[aL];exact h.len,fun y hy=>?_,?_⟩
 ·rcases List.mem_or_eq_of_mem_set hy with hy|rfl
  ·exact h.ba y hy
  exact ht
 dsimp only;rw[e9];exact(h.lk.unlink t.key).1
theorem oN.push{room:Int}{X:CaX}(h:oN room X)(hlt:(X.Z.length:Int)<room){t:BA}(ht:t.b.code.length≤100000∧ko t.b.key)(A:Option Addr)(c:Nat):oN room ⟨X.ml,A,c,X.fl,X.LK,X.Z++[t]⟩:=by
 refine⟨h.rm,(by simp;omega),fun y hy=>?_,h.lk.mono fun q hq=>by rw[List.map_append];exact aC _ hq⟩;rcases aV.1 hy with hy|hy
 ·exact h.ba y hy
 rw[aN]at hy;subst hy;exact ht
def mi(D:BA→Bool)(r:Int×List (Ky×LS))(x:BA):Int×List (Ky×LS):=bif D x then(IntKind.i64.wrap (r.1+1),gv r.2 x.key)else r
theorem sb(D:BA→Bool)(keys:List Ky):∀(l:List BA) (r:Int×List (Ky×LS)),0≤r.1→r.1+(l.length:Int)≤1000000000→xf keys r.2→(l.foldl (mi D) r).1=r.1+(l.filter D).length∧xf keys (l.foldl (mi D) r).2∧(∀y,y∈(l.foldl (mi D) r).2→∃z,z∈r.2∧∀q,q∈y.2.ks→q∈z.2.ks)∧
  ∀y,y∈(l.foldl (mi D) r).2→∀q,q∈y.2.ks→∀x,x∈l→D x=true→q≠x.key
 |[],r,_,_,h=>⟨by simp,h,fun y hy=>⟨y,hy,fun q hq=>hq⟩,fun _ _ _ _ x hx=>by cases hx⟩
 |x::l,r,h0,hb,h=>by
  have hb2:r.1+(l.length:Int)+1≤1000000000:=by simp only[ai]at hb;omega
  rw[List.foldl_cons,List.filter_cons];cases hD:D x with
  |false=>
   have e:mi D r x=r:=by unfold mi;rw[hD,aa]
   rw[e];obtain⟨h1,h2,h3,h4⟩:=sb D keys l r h0 (by omega) h;refine⟨by simpa using h1,h2,h3,fun y hy q hq z hz hzD=>?_⟩;rcases aM.1 hz with rfl|hz
   ·rw[hD]at hzD;cases hzD
   exact h4 y hy q hq z hz hzD
  |true=>
   have e:mi D r x=(r.1+1,gv r.2 x.key):=by unfold mi;rw[hD,ac,show IntKind.i64.wrap (r.1+1)=r.1+1 by rw[bI];omega]
   rw[e];obtain⟨u1,u2⟩:=h.unlink x.key;obtain⟨h1,h2,h3,h4⟩:=sb D keys l (r.1+1,gv r.2 x.key) (by dsimp only;omega) (by dsimp only;omega) u1;refine⟨by rw[h1,if_pos rfl];simp only[ai];omega,h2,fun y hy=>?_,fun y hy q hq z hz hzD=>?_⟩
   ·obtain⟨z,hz,hq⟩:=h3 y hy;obtain⟨z',hz',hq'⟩:=Ah hz;exact⟨z',hz',fun q h=>hq' q (hq q h)⟩
   rcases aM.1 hz with rfl|hz
   ·obtain⟨z',hz',hq'⟩:=h3 y hy;exact u2 z' hz' q (hq' q hq)
   exact h4 y hy q hq z hz hzD
theorem put_at{α:Type}{key:α→Ky}{room:Int}{l:List α}{t:α}{j:Nat}(h:cX key (key t) l=some j):rq key room l t=l.set j t:=by unfold rq;rw[h]
theorem FS{α:Type}{key:α→Ky}{room:Int}{l:List α}{t:α}(h:cX key (key t) l=none)(h2:room≤(l.length:Int)):rq key room l t=[t]:=by unfold rq;rw[h];dsimp only;rw[aG h2,ac]
theorem FR{α:Type}{key:α→Ky}{room:Int}{l:List α}{t:α}(h:cX key (key t) l=none)(h2:¬room≤(l.length:Int)):rq key room l t=l++[t]:=by unfold rq;rw[h];dsimp only;rw[aF h2,aa]
theorem place_b(k:Ky)(Z:List BA):cX Blk.key k (Z.map BA.b)=cX BA.key k Z:=jy (key:=BA.key) (key':=Blk.key) BA.b Zrf k Z
end Go.Ink
namespace Go.Proofs.YtomjgmbccamgiaaGreatDoor
open Go.RowKit Go.Ink Go.Proofs.Tryz
attribute [local irreducible] OpY bW
theorem cnew_ok(room:Int)(w:World):Ctr prog 34 [.int .i64 room] w [] (fun v cs=>if 1≤room∧room≤1024 then∃bc ml,v= .tuple #[.pointer (some ⟨bc,0,none⟩),.int .i64 0]∧cs=caF bc room ⟨ml,none,0,0,[],[]⟩else v= .tuple #[.pointer none,.int .i64 1]∧cs=[]):=by
 refine bL func34 rfl ntmps34 rfl (Inv.start w) ?_;refine vo ?_;refine ZW ?_ ?_<;>intro hc1
 ·have hnr:¬(1≤room∧room≤1024):=(by simp only[Bool.or_eq_true,ap]at hc1;omega);refine Z_8 ?_;refine fw (cs':=[]) (.inl rfl) Zu rfl rfl rfl ?_;rw[if_neg hnr];exact⟨rfl,rfl⟩
 have hnr:1≤room∧room≤1024:=(by simp only[bl,aj]at hc1;omega);refine Z_4 ?_;refine dB 173 4 ?_;refine ny ?_;refine ny ?_;refine ZA ?_;refine dM (xy rfl) rfl ?_;rintro _ _ ⟨b11,rfl,rfl⟩;refine ZA ?_;refine ZO fun b13=>?_
 refine Z_5 ?_;refine bQ (caF b13 room ⟨b11,none,0,0,[],[]⟩) Zj ?_;refine fw (cs':=caF b13 room ⟨b11,none,0,0,[],[]⟩) (.inl rfl) (aI _) rfl rfl rfl ?_;rw[if_pos hnr];exact⟨b13,b11,rfl,rfl⟩
theorem Ey(bc:Nat)(room:Int)(X:CaX)(w:World)(hi:Inv w (bK (caF bc room X)) (caF bc room X) w):Ctr prog 41 [.pointer (some ⟨bc,0,none⟩)] w (caF bc room X) (fun v cs=>v= .int .i64 (X.Z.length:Int)∧cs=caF bc room X):=by
 refine bL func41 rfl ntmps41 rfl hi ?_;refine p5 ?_;refine vQ (cs':=caF bc room X) (.inl rfl) (aI _) rfl rfl ?_;exact⟨rfl,rfl⟩
theorem w6(bc:Nat)(room:Int)(X:CaX)(w:World)(hi:Inv w (bK (caF bc room X)) (caF bc room X) w):Ctr prog 50 [.pointer (some ⟨bc,0,none⟩)] w (caF bc room X) (fun v cs=>∃ml fl,v= .int .i64 (X.Z.length:Int)∧cs=caF bc room ⟨ml,none,0,fl,[],[]⟩):=by
 refine bL func50 rfl ntmps50 rfl hi ?_;refine vo ?_;refine dB 173 4 ?_;refine ny ?_;refine ny ?_;refine Z_2 ?_;refine dM (xy rfl) rfl ?_;rintro _ _ ⟨b11,rfl,rfl⟩;refine Z_2 ?_;refine ZL ?_;refine Z_2 ?_;refine ZL ?_;refine Z_8 ?_;refine Zy (cF Zv0 Zv0 rfl) ?_;refine Z_2 ?_;refine ZL ?_;refine Z_9 ?_;refine bQ (caF bc room ⟨b11,none,0,IntKind.i64.wrap (X.fl+1),[],[]⟩) Zj ?_;refine vQ (cs':=caF bc room ⟨b11,none,0,IntKind.i64.wrap (X.fl+1),[],[]⟩) (.inl rfl) (aI _) rfl rfl ?_;exact⟨_,_,rfl,rfl⟩
abbrev caL(bc:Nat)(room:Int)(ml:Nat)(A:Option Addr)(cc:Nat)(fl:Int)(n:Nat)(xs:List Value)(cin:List bJ)(LK:List (Ky×LS)):List bJ:=[caR bc (.int .i64 room) (.slice A n cc) (.map (some ml)) (.int .i64 fl),slv 173 4 A n cc xs,dw cin,mpc ml (lkV LK),dw (lkC LK)]
theorem cput_ok(bc:Nat)(room:Int)(X:CaX)(hX:oN room X)(t:BA)(ht:t.b.code.length≤100000∧ko t.b.key)(hc1:1≤t.b.count)(hne:t.b.code≠[])(w:World)(hi:Inv w (bK (caF bc room X)) (caF bc room X) w)(hR:∀w',dQ (bK (caF bc room X)) w w'→Rd w' .u8 t.A (cO t.b.code).length t.c (cO t.b.code)):
  Ctr prog 119 [.pointer (some ⟨bc,0,none⟩),.agg t.cells.toArray] w (caF bc room X) (fun _ cs=>∃X':CaX,cs=caF bc room X'∧oN room X'∧X'.Z.map BA.b=rq Blk.key room (X.Z.map BA.b) t.b):=by
 have hS:=hX.sm;have hZ:=hS.1;have hlen:=hX.len;obtain⟨hr1,hr2⟩:=hX.rm;have hb8:(cO t.b.code).length≤140737488355328:=by rw[iW];omega
 have hb0:(cO t.b.code).length≠0:=by rw[iW];intro e;exact hne (List.eq_nil_of_length_eq_zero (by omega))
 have HP:=sh bc (.int .i64 room) (.map (some X.ml)) (.int .i64 X.fl) X.Ac X.cc X.Z hZ t.b.key;have HU:=vz bc X.ml (.int .i64 room) (.slice X.Ac X.Z.length X.cc) (.int .i64 X.fl) X.LK (hX.lk.sm (by simpa using hZ)) t.b.key ht.2;have HF:=w6 bc room X;obtain⟨o,ho⟩:=Zgn (cX BA.key t.b.key X.Z);rw[ho]at HP;have hob:cX Blk.key t.b.key (X.Z.map BA.b)=o:=by rw[place_b,ho]
 obtain⟨ml,Ac,cc,fl,LK,Z⟩:=X;dsimp only at hS hZ hlen HP HU HF ho hob;refine bL func119 rfl ntmps119 rfl hi ?_;refine Z_2 ?_;refine ZO fun b3=>?_;refine vo ?_;refine bY rfl ((by rw[bl];exact⟨aF (by omega),beq_eq_false_iff_ne.2 (by omega)⟩)) ?_;refine Z_6 ?_;refine ZS (fun w hi=>sr t.A (cO t.b.code).length t.c (cO t.b.code) w (hR w hi.IG) hb8) ?_;rintro _ _ ⟨_,⟨A9,c9,rfl,rfl⟩,rfl⟩;refine Z_1 ?_;refine ZL ?_;refine Z_7 ?_;refine dU (cC (vs:=cH t.b.key) Zrf Zrf Zv0) (cL Zh rfl) rfl ?_;refine ZcM ([caR bc (.int .i64 room) (.slice Ac Z.length cc) (.map (some ml)) (.int .i64 fl),slv 173 4 Ac Z.length cc (Z.flatMap BA.cells)]) (fun w hi hin=>HP w hin) ?_;refine Z_9 ?_;refine ZW ?_ ?_<;>intro hc5
 ·obtain⟨j,rfl⟩:∃j,o=some j:=(by cases o with|none=>cases hc5|some j=>exact⟨j,rfl⟩);obtain⟨x,hx,hxk, -⟩:=pu ho;have hjl:=(au.1 hx).1;obtain⟨bs,rfl⟩:=hI (hi.get (.tail _ (.head (slv 173 4 Ac Z.length cc (Z.flatMap BA.cells)) _))) (show 0<Z.length by omega);refine Z_4 ?_;refine dU (cC (vs:=cH t.b.key) Zrf Zrf Zv0) (cL Zh rfl) rfl ?_;refine ZcL ([caR bc (.int .i64 room) (.slice (some ⟨bs,0,none⟩) Z.length cc) (.map (some ml)) (.int .i64 fl),mpc ml (lkV LK),dw (lkC LK)]) (fun w hi hin=>HU w hin) ?_;rintro _ _ ⟨_,rfl,rfl⟩;refine Z_3 ?_;refine cj ⟨fun j=>List.elem j [7],[]⟩ Zk ?_;refine ZE 0 ?_;refine ZE 1 ?_;refine ZFe 2 1 ?_;refine ZG 3 ?_;refine ZE 4 ?_;refine ZI 5 ?_;refine cR 6 rfl Zk Zk Zk (cI (bb:=bs) (o:=0) (n:=Z.length) (c:=cc) (j:=j) (sz:=4) (r:=j*4) rfl Zrf (Zv rfl) (Zv rfl) Zrf (fun _=>by omega) (by omega)) rfl ?_;refine cE 7 Zk ?_;refine dC rfl rfl (qW (sz:=4) (n:=Z.length) (c:=cc) (vs:=BA.cells ⟨t.b,A9,c9⟩) Zrf rfl rfl (fP _) Za rfl (by omega)) ZJ ?_;rintro _ _ ⟨rfl,rfl⟩;rw[u7 (f:=BA.cells) (sz:=4) Zrf hjl];refine bO Zk ?_;refine Z_8 ?_;refine vU (cin:=Z.map baC) (c:=baC x) (cin':=(Z.map baC).eraseIdx j) Zd (mF (by rw[bj,hx];rfl)) ?_;refine iR (cin:=(Z.map baC).eraseIdx j) (c:=baC ⟨t.b,A9,c9⟩) (cin':=(Z.set j ⟨t.b,A9,c9⟩).map baC) Zd Zd (by rw[List.map_set];exact qz (by simpa using hjl)) ?_;refine bQ (caL bc room ml (some ⟨bs,0,none⟩) cc fl Z.length ((Z.set j ⟨t.b,A9,c9⟩).flatMap BA.cells) ((Z.set j ⟨t.b,A9,c9⟩).map baC) (gv LK t.b.key)) Zj ?_;refine vQ (cs':=caL bc room ml (some ⟨bs,0,none⟩) cc fl Z.length ((Z.set j ⟨t.b,A9,c9⟩).flatMap BA.cells) ((Z.set j ⟨t.b,A9,c9⟩).map baC) (gv LK t.b.key)) (.inl rfl) (aI _) rfl rfl ?_;exact⟨⟨ml,some ⟨bs,0,none⟩,cc,fl,gv LK t.b.key,Z.set j ⟨t.b,A9,c9⟩⟩,by simp only[caF,caL,blC,aL],hX.set (t:=⟨t.b,A9,c9⟩) hx hxk ht _ _ _ _,by rw[put_at hob,List.map_set]⟩
 obtain rfl:o=none:=(by cases o with|none=>rfl|some j=>have h9:¬(0:Int)≤((j:Nat):Int):=of_decide_eq_false hc5;omega);refine Z_2 ?_;refine de (fun Y:CaX=>[(0,.pointer (some ⟨bc,0,none⟩)),(3,.pointer (some ⟨b3,0,none⟩))]) (fun Y=>caF bc room Y++[row b3 (BA.cells ⟨t.b,A9,c9⟩) 173,baC ⟨t.b,A9,c9⟩]) (fun Y=>oN room Y∧(Y.Z.length:Int)<room∧Y.Z.map BA.b++[t.b]=rq Blk.key room (Z.map BA.b) t.b) ?_ ?_
 ·refine Zs (cj ⟨fun j=>List.elem j [],[]⟩ Zk ?_);refine ZE 0 ?_;refine ZE 1 ?_;refine ZFe 2 1 ?_;refine ZG 3 ?_;refine ZE 4 ?_;refine ZE 5 ?_;refine ZE 6 ?_;refine ZFe 7 0 ?_;refine ZG 8 ?_;refine ZE 9 ?_;refine bO Zk ?_;refine Zt ?_;refine ZW ?_ ?_<;>intro hc9
  ·have hfull:room≤((Z.map BA.b).length:Int):=(by rw[List.length_map];exact of_decide_eq_true hc9);refine Z_2 ?_;refine ZcL (caF bc room ⟨ml,Ac,cc,fl,LK,Z⟩) (fun w hi hin=>HF w hin) ?_;rintro _ _ ⟨_,⟨ml2,fl2,rfl,rfl⟩,rfl⟩;refine Zn ?_;refine cz ((⟨ml2,none,0,fl2,[],[]⟩:CaX)) ?_ ?_ ?_
   ·exact⟨oN.none ⟨hr1,hr2⟩ _ _ _ _,by show((0:Nat):Int)<room;omega,by rw[FS hob hfull];rfl⟩
   ·exact Zwk
   exact Zj
  have hfull:¬room≤((Z.map BA.b).length:Int):=(by rw[List.length_map];exact of_decide_eq_false hc9);refine Zc ?_;refine cz ((⟨ml,Ac,cc,fl,LK,Z⟩:CaX)) ?_ ?_ ?_
  ·exact⟨hX,by rw[List.length_map]at hfull;show((Z.length:Nat):Int)<room;omega,by rw[FR hob hfull]⟩
  ·exact Zwk
  exact Zj
 rintro⟨ml2,Ac2,cc2,fl2,LK2,Z2⟩ ⟨hY,hlt,hput⟩;dsimp only at hlt hput⊢;refine Zs (cj ⟨fun j=>List.elem j [7,10],rh b3 (BA.cells ⟨t.b,A9,c9⟩)⟩ Zk ?_);refine ZE 0 ?_;refine ZE 1 ?_;refine ZE 2 ?_;refine ZFe 3 1 ?_;refine ZG 4 ?_;refine sX 5 rfl Zk Zk Zk (cC Zrf Zrf Zv0) (fun x hx=>gb x hx) (bX (t:=173) Zh) rfl ?_;refine cE 6 Zk ?_;refine gu rfl rfl (di rfl rfl Zrf Zrf rfl rfl rfl) (fun _=>by rintro _ _ ⟨b54,rfl,rfl⟩;exact bX (t:=173) Zh) rfl ?_;rintro _ _ ⟨b54,rfl,rfl⟩;refine cE 7 Zk ?_;refine gu rfl rfl (cM (n:=Z2.length) (e:=173) (sz:=4) (bytes:=40) rfl rfl Za rfl rfl (fun w hi=>hi.rd (show Has _ (slv 173 4 (some ⟨b54,0,none⟩) 1 1 (BA.cells ⟨t.b,A9,c9⟩))from Zh)) (fP ⟨t.b,A9,c9⟩) (by simp only[maxLen];omega) (by omega)) (fun _=>by rintro _ _ ⟨A2,c2,rfl,rfl⟩;exact bX (t:=173) Zh) rfl ?_;rintro _ _ ⟨A2,c2,rfl,rfl⟩;rw[show Z2.flatMap BA.cells++BA.cells ⟨t.b,A9,c9⟩=(Z2++[(⟨t.b,A9,c9⟩:BA)]).flatMap BA.cells by simp,show Z2.length+1=(Z2++[(⟨t.b,A9,c9⟩:BA)]).length by simp];refine ZE 8 ?_;refine ZFe 9 1 ?_;refine cE 10 Zk ?_;refine dC rfl rfl (fo Zrf rfl rfl rfl Za Zp) (fun _=>by rintro _ _ ⟨rfl,rfl⟩;exact bX (t:=173) Zh) ?_;rintro _ _ ⟨rfl,rfl⟩;refine bO Zk ?_;refine Z_7 ?_;refine iR (cin:=Z2.map baC) (c:=baC ⟨t.b,A9,c9⟩) (cin':=(Z2++[(⟨t.b,A9,c9⟩:BA)]).map baC) Zd Zd (by rw[List.map_append];exact List.perm_append_singleton _ _) ?_;refine bQ (caF bc room ⟨ml2,A2,c2,fl2,LK2,Z2++[(⟨t.b,A9,c9⟩:BA)]⟩) Zj ?_;refine vQ (cs':=caF bc room ⟨ml2,A2,c2,fl2,LK2,Z2++[(⟨t.b,A9,c9⟩:BA)]⟩) (.inl rfl) (aI _) rfl rfl ?_;exact⟨⟨ml2,A2,c2,fl2,LK2,Z2++[(⟨t.b,A9,c9⟩:BA)]⟩,rfl,hY.push (t:=⟨t.b,A9,c9⟩) hlt ht _ _,by rw[List.map_append];exact hput⟩
end Go.Proofs.YtomjgmbccamgiaaGreatDoor
