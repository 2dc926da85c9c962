/- Lemmas. -/
import Derived.Test.YtepfimeihngjoaaGreatDoorXae
import Derived.Test.YtepfimeihngjoaaGreatDoorXaf
import Derived.Test.YtepfimeihngjoaaGreatDoorXag
set_option linter.all false
set_option maxRecDepth 100000
set_option maxHeartbeats 4000000
namespace Go.Ink
open List renaming length→J
open IntKind renaming wrap→V9
open Go.RowKit Go.Proofs.Tryz
variable{w:World}{n:Nat}{xs:List Value}
variable{i:Nat}
variable{p:Nat×Nat}{o:Oper}
section
open Go.ChangeShapes Go.WideShapes
theorem kC{P:Program}{name:String}{g t e:Nat}{k:IntKind}{Tv:Li}{d:DataW Unit}(h:laidMetH P [(name,d)] w)(hp:laidMetH P [(name,d)] w=laidMet P [(name,d)] w)(hdv:d= .agg (Tv.map λx=> .lit (.int k x)))
  (hg:P.globalNamed name=some g) (ht:(P.globals[g]?).map (·.type)=some t) (hu:P.underlying t=some (.array n e)) (he:P.underlying e=some (.int k)) (hc:P.cellsOf e=1) (hn:J Tv=n) (hm:n<=maxLen):U5 w 1 (sA g) n n (ints k Tv):=by
 rw[hp]at h;obtain⟨ps,⟨g0,t0,cs,f,p,q,hg0,ht0,hv0,hd0, -⟩, -, -⟩:=h;obtain rfl:=aF (hg.symm.trans hg0);obtain rfl:=aF (ht.symm.trans ht0);obtain⟨xs,m, -,hx, -,hxl,hxs⟩:=DataW.trod_array hu hd0;rw[hdv]at hx;simp only[aB,DataW.agg.injEq]at hx;have hcell:∀(i:Nat) (x:Int),Tv[i]? =some x->cs[i]? =some (.int k x):=λi x hi=>by
  have hil:i<n:=by rw[<-hn];exact(aC.1 hi).1
  have h1:=hxs i hil;have hxi:xs[i]? =some (xs[i]'(by omega)):=ak O;rw[hxi,hc,Nat.mul_one]at h1;obtain⟨z,hz1,hz2, -⟩:=DataW.trod_int he h1;have h2:(xs.map (·.1))[i]? =some (.lit (.int k x)):=by rw[<-hx.1,List.getElem?_map,hi];rfl
  rw[List.getElem?_map,hxi]at h2;simp only[Option.map_some,bh]at h2;rw[hz2]at h2;simp only[DataW.lit.injEq,Lit.int.injEq,true_and]at h2;subst h2;have h3:((cs.toList.drop i).take 1)[0]? =some (.int k z):=by rw[hz1];rfl
  rw[List.getElem?_take,if_pos O,List.getElem?_drop]at h3;simpa using h3
 refine⟨by simp[ints,hn],aK _,hm,λe=>(by cases e),λad e j u hu=>?_⟩;obtain rfl:=(aF e).symm;unfold ints at hu;rw[List.getElem?_map]at hu;cases hj:Tv[j]? with
 |none=>rw[hj]at hu;cases hu
 |some x=>
  rw[hj]at hu;obtain rfl:=(aF hu).symm;unfold World.var? at hv0;rw[hg]at hv0;simp only[Option.bind_some]at hv0;rw[Addr.add_lit];unfold World.cell?;cases hh:w.heap[g]? with
  |none=>rw[hh]at hv0;cases hv0
  |some o=>
   rw[hh]at hv0;cases o with
   |cells c el fz=>
    obtain rfl:=aF hv0;simpa using hcell j x hj
   |_=>cases hv0
end
end Go.Ink
namespace Go.Ink
open List renaming length→J, replicate→R9
open IntKind renaming wrap→V9
open Go.RowKit Go.Proofs.Tryz
section
attribute [local irreducible] Ve bN
theorem Fz(a b:Int)(up:Bool)(hb:0<=b)(w:World):CW prog 319 [.w a,.w b,.bool up] w (.w (di a b up)):=by
 refine UV func319 ntmps319 ?_;refine uf ?_ ?_<;>intro hc1
 .refine fS ?_;refine⟨?_,I⟩;simp only[di, *,ah,ac]
 refine UH ?_ ?_<;>intro hc3
 .refine UK ?_;refine IY ?_;refine UU ?_;refine Wl ?_;refine⟨?_,I⟩;simp only[di, *,ah,ac]
 refine US ?_;refine qT ?_;refine UK ?_;refine Wl ?_;refine⟨?_,I⟩;simp only[di, *,ah,ac]
theorem P1(op f:Int)(w:World):CW prog 258 [.i op,.w f] w (.tuple #[.bool (df op f).1,.bool (df op f).2]):=by
 refine UV func258 ntmps258 ?_;refine Jm ?_;refine ZW ?_ ?_<;>intro hc2
 .exact Wm
 refine UH ?_ ?_<;>intro hc4
 .exact Wm
 refine UH ?_ ?_<;>intro hc6
 .exact Wm
 refine UH ?_ ?_<;>intro hc8
 .exact Wm
 refine UH ?_ ?_<;>intro hc10
 .exact Wm
 refine eL ?_;refine po ?_;refine⟨?_,I⟩;exact tG
theorem Dg(b:Int)(w:World):CW prog 229 [.w b] w (.w (jN b)):=by
 refine UV func229 ntmps229 ?_;refine Va ?_;refine mU ?_;refine mU ?_;refine mU ?_;exact mZ
theorem Pn(op:Int)(w:World):CW prog 251 [.i op] w (.tuple #[.i ((bV op).1.1:Nat),.i ((bV op).1.2:Nat),.i ((bV op).2.1:Nat),.i ((bV op).2.2:Nat)]):=by
 refine UV func251 ntmps251 ?_;refine jS ?_;refine An ?_;refine ZW ?_ ?_<;>intro hc2
 .refine An ?_;refine bY I (hc2) (pT ?_);exact VG
 refine UH ?_ ?_<;>intro hc3
 .refine An ?_;refine bY I (hc3) (pT ?_);exact VG
 refine Wh ?_ ?_<;>intro hc4
 .exact VV
 refine UH ?_ ?_<;>intro hc6
 .exact VV
 refine VJ ?_ ?_<;>intro hc8
 .refine An ?_;refine bY I (hc8) (pT ?_);exact VG
 refine UH ?_ ?_<;>intro hc9
 .refine An ?_;refine bY I (hc9) (pT ?_);exact VG
 refine UH ?_ ?_<;>intro hc10
 .refine Eu ?_;exact VV
 refine Wh ?_ ?_<;>intro hc11
 .exact VV
 refine UH ?_ ?_<;>intro hc13
 .exact VV
 refine UH ?_ ?_<;>intro hc15
 .exact VV
 refine UH ?_ ?_<;>intro hc17
 .exact VV
 refine UH ?_ ?_<;>intro hc19
 .exact VV
 refine VJ ?_ ?_<;>intro hc21
 .refine An ?_;refine bY I (hc21) (pT ?_);exact VG
 refine UH ?_ ?_<;>intro hc22
 .refine An ?_;refine bY I (hc22) (pT ?_);exact VG
 refine UH ?_ ?_<;>intro hc23
 .refine An ?_;refine bY I (hc23) (pT ?_);exact VG
 refine UH ?_ ?_<;>intro hc24
 .refine An ?_;refine bY I (hc24) (pT ?_);exact VG
 refine UH ?_ ?_<;>intro hc25
 .refine An ?_;refine bY I (hc25) (pT ?_);exact VG
 refine UH ?_ ?_<;>intro hc26
 .refine An ?_;refine bY I (hc26) (pT ?_);exact VG
 refine UH ?_ ?_<;>intro hc27
 .refine An ?_;refine bY I (hc27) (pT ?_);exact VG
 refine UH ?_ ?_<;>intro hc28
 .refine An ?_;refine bY I (hc28) (pT ?_);exact VG
 refine Wh ?_ ?_<;>intro hc29
 .exact VV
 refine VJ ?_ ?_<;>intro hc31
 .refine An ?_;refine bY I (hc31) (pT ?_);exact VG
 refine UH ?_ ?_<;>intro hc32
 .refine An ?_;refine bY I (hc32) (pT ?_);exact VG
 refine UH ?_ ?_<;>intro hc33
 .refine An ?_;refine bY I (hc33) (pT ?_);exact VG
 refine Wh ?_ ?_<;>intro hc34
 .exact VV
 refine VJ ?_ ?_<;>intro hc36
 .refine An ?_;refine bY I (hc36) (pT ?_);exact VG
 refine UH ?_ ?_<;>intro hc37
 .refine An ?_;refine bY I (hc37) (pT ?_);exact VG
 refine Wh ?_ ?_<;>intro hc38
 .exact VV
 refine UH ?_ ?_<;>intro hc40
 .exact VV
 refine UH ?_ ?_<;>intro hc42
 .exact VV
 refine fR ?_;refine ret4 (cs':=[]) (.inl I) Zu I I I I I ⟨?_,I⟩;exact pN
def dQ(s:St)(op n:Int):Int:=
 bif !eJ op n then 1 else bif lC op&& !s.SQ then 2 else bif op==66&& !(s.get n).2 then 1 else bif op==67&& !(s.set n 0).2 then 1 else qo s (bV op)
end
end Go.Ink
namespace Go.Ink
open List renaming length→J
open Go.RowKit
section
open Go.MapKept
open Go.ChangeMaps (setBlock)
open Go.Maps (Keyed)
def DT(L:List (Bool×Ky×Value))(o:Jj):List (Bool×Ky×Value):=match o with|none=>L|some (j,q,v)=>L.set j (true,q,v)
variable{b r:Nat}{L:List (Bool×Ky×Value)}{cur:Option (Ky×Value)}{w:World}
theorem Pm{P:Program}(h:Aj b r L cur w)(ty:TypeId):
  ∃o w',Sf L o/\(Instr.next (.p r) false ty).run P w= .ok (.tuple (Ia o).toArray) w'/\dc [b,r] w w'/\Aj b r (DT L o) (K7 o) w':=by
 obtain⟨es,clock,since,seen,c0,hb,hs,hr,hold,hsc,hsk,hL,hok,hne,hcur⟩:=h;rcases run_next_at (P:=P) w ty r b since c0 seen es clock hr hb hold hsc with⟨h0,ka⟩|⟨e,he,w1,hal,ka⟩
 .refine⟨none,w,λx hx=>?_,ka,dc.refl _ _,es,clock,since,seen,c0,hb,hs,hr,hold,hsc,hsk,hL,hok,hne,λq v e=>by cases e⟩;have ha:=all_seen es seen h0;obtain⟨j,hj⟩:=List.getElem?_of_mem hx;have h1:=congrArg (λl=>l[j]?) hL
  grind
 obtain⟨hem,hes⟩:=mem_left he;obtain⟨j,hj⟩:=List.getElem?_of_mem hem;have h1:=congrArg (λl=>l[j]?) hL;simp only[List.getElem?_map,hj,Option.map_some]at h1;cases hl:L[j]? with
 |none=>grind
 |some x=>
  obtain⟨f,q,v⟩:=x;rw[hl]at h1;simp only[Option.map_some,bh,aB]at h1;obtain⟨h1,h2,h3⟩:=h1;rw[hes]at h1;subst h1 h3;have hr1:w1.heap[r]? =some (.mapIter (some b) since seen c0):=by rcases hal with rfl|rfl<;>exact hr
  have hb1:w1.heap[b]? =some (.map es clock):=by rcases hal with rfl|rfl<;>exact hb
  have hset:=heap_set (o':= .mapIter (some b) since (seen.push e.born) clock) hr1;have hkp:dc [b,r] w (setBlock w1 r (.mapIter (some b) since (seen.push e.born) clock)):=by
   have hk1:=gy (o':= .mapIter (some b) since (seen.push e.born) clock) hr1;rcases hal with rfl|rfl<;>exact⟨I,I,I,hk1.size,λi hi hn=>hk1.block i hi (by simp at hn|-;omega)⟩
  refine⟨some (j,q,e.val),_,hl,by rw[ka,h2];rfl,hkp,es,clock,since,seen.push e.born,clock,(hset.2 b hne).trans hb1,hs,hset.1,hold,hsk,hsk,?_,λx hx=>?_,hne,λq' v' e'=>?_⟩
  .show _=(L.set j (true,q,e.val)).map _;rw[List.map_set,<-hL];apply List.ext_getElem?;intro i;rw[List.getElem?_map,List.getElem?_set];by_cases hij:j=i
   .grind
   rw[if_neg hij,List.getElem?_map];cases hi:es.toList[i]? with
   |none=>rfl
   |some x=>
    have hxb:(x.born==e.born)=false:=by
     rw[bF];intro hbe;have:=born_inj hs.2.1 (aG hi) hem hbe;subst this;exact hij (oL hs hj hi I)
    grind
  .rcases List.mem_or_eq_of_mem_set hx with hx|rfl
   .grind
   grind
  grind [K7]
section
variable{P:Program}{k e:TypeId}{T:TypeId}{w:World}{b r:Nat}{L:List (Bool×Ky×Value)}{cur:Option (Ky×Value)}{q:Ky}
theorem LO(hT:P.underlying T=some (.map k e))(hK:sj P k)(h:Aj b r L cur w){j:Nat}{f:Bool}{v0:Value}(hj:L[j]? =some (f,q,v0))(v:Value):
  ∃w',(Instr.mapUpdate T (.map (some b)) (VI q) v).run P w= .ok () w'/\dc [b,r] w w'/\Aj b r (L.set j (f,q,v)) none w':=by
 obtain⟨es,clock,since,seen,c0,hb,hs,hr,hold,hsc,hsk,hL,hok,hne,hcur⟩:=h;have hq:lD q:=hok _ (aG hj);obtain⟨lq,hlq⟩:=hK.at_ q hq;have hL2:(es.toList.map λe=>(e.key,e.val))=((L.map (·.2)).map λx=>(VI x.1,x.2)):=by
  exact η
 have hok2:∀x,x∈L.map (·.2)->lD x.1:=λx hx=>by grind
 rcases rM hK hs hL2 hok2 hq w with⟨h1,h2,h3⟩|⟨i,e0,h1,h2,h3,h4,h5⟩
 .grind [iF]
 have hij:i=j:=by
  have hjj:(L.map (·.2))[j]? =some (q,v0):=by rw[List.getElem?_map,hj];rfl
  obtain⟨f1,hf1,hf2, -⟩:=Mz hL2 hjj;exact oL hs h3 hf1 (by rw[h4,hf2])
 subst hij;have hji:es[i]? =some e0:=by simpa using h3
 have hkeyf:∀e',es[i]? =some e'->({e' with key:=VI q,val:=v}:MapEntry).key=e'.key:=λe' he'=>by grind
 have hk1:=gy (o':= .map (es.modify i λe'=>{e' with key:=VI q,val:=v}) clock) hb;have hset:(es.modify i λe'=>{e' with key:=VI q,val:=v}).toList=es.toList.set i {e0 with key:=VI q,val:=v}:=by rw[Array.toList_modify,ChangeMaps.modify_eq_set _ _ _ _ h3]
 refine⟨setBlock w b (.map (es.modify i λe'=>{e' with key:=VI q,val:=v}) clock),?_,⟨I,I,I,hk1.size,λi hi hn=>hk1.block i hi bZ⟩,_,clock,since,seen,c0,(heap_set hb).1,stamped_modify hs _ _ (λ_ _=>I) (λe' _ he'=>hkeyf e' he'),((heap_set hb).2 r hne.symm).trans hr,?_,hsc,hsk,?_,?_,hne,λ_ _ e=>by cases e⟩
 .simp[Instr.mapUpdate,run_underlying hT,MapKept.run_getObj_map hb,hK.K.check w false hlq,h2,hji,h4,hK.K.stays w hlq,MapKept.run_setObj_map _ hb,Result.andThen,setBlock]
 .grind
 .rw[hset,List.map_set,List.map_set,hL];have h6:=congrArg (λl=>l[i]?) hL
  grind
 grind
end
section
variable{C:Cx}{fr:Fr}{cs:List bJ}{d:Option Nat}{T k e:TypeId}{x y z:Operand}{ty:TypeId}{pos:String}{af:Array Edge}{gd:Option (Nat×Bool)}{v:Value}{b r:Nat}{L:List (Ky×Value)}{IL:List (Bool×Ky×Value)}{cur:Option (Ky×Value)}{q:Ky}{mk:bJ->List bJ}
theorem t_mdel(hx:ev fr x=some (.map (some b)))(hy:ev fr y=some (VI q))(hq:lD q)(hT:C.P.underlying T=some (.map k e))(hK:sj C.P k)(hu:At cs (V0 b L) mk):
  VU C ⟨d,.call {callee:= .builtin .delete,args:= #[x,y],argTypes:= #[T,k]},ty,pos,af,gd⟩ fr cs true (λu cs'=>u= .tuple #[]/\cs'=mk (V0 b (qk L q))):=λa w hf hi next Q h=>by
 obtain⟨w',h1,h2,h3⟩:=del_run hT hK hq (hi.get hu.has) ty;unfold Oper.wp;have hr:(execOp a.eval ⟨d,.call {callee:= .builtin .delete,args:= #[x,y],argTypes:= #[T,k]},ty,pos,af,gd⟩).run C.P w= .ok (.value (.tuple #[])) w':=by simp[execOp,resolve,invoke,builtin,hf.ev hx,hf.ev hy,h1]
 exact Wq464
theorem OB(hx:ev fr x=some (.map (some b)))(hT:C.P.underlying T=some (.map k e))(hu:At cs (V0 b L) mk):
  VU C ⟨d,.call {callee:= .builtin .clear,args:= #[x],argTypes:= #[T]},ty,pos,af,gd⟩ fr cs true (λu cs'=>u= .tuple #[]/\cs'=mk (V0 b [])):=λa w hf hi next Q h=>by
 obtain⟨es,clock,hb,hs,hL,hok⟩:=(show oc b L w from hi.get hu.has);have hr:(execOp a.eval ⟨d,.call {callee:= .builtin .clear,args:= #[x],argTypes:= #[T]},ty,pos,af,gd⟩).run C.P w= .ok (.value (.tuple #[])) (setBlock w b (.map #[] clock)):=by
  simp[execOp,resolve,invoke,builtin,hf.ev hx,Builtin.clear_,run_underlying hT,MapKept.run_getObj_map hb,MapKept.run_setObj_map _ hb,Result.andThen,setBlock]
 unfold Oper.wp;rw[hr];exact h _ _ _ ⟨I,I⟩ (hi.upd (hu _) (gy hb) (nM (gy hb) (by simp[bJ.bs]) ⟨#[],clock,(heap_set hb).1,stamped_empty clock,by simp,by simp⟩ (λb hb=>Or.inl hb))) (λe=>by cases e)
theorem EX(hx:ev fr x=some (.map (some b)))(hT:C.P.underlying T=some (.map k e))(hu:At cs (V0 b L) mk):
  VU C ⟨d,.range T x,ty,pos,af,gd⟩ fr cs true (λu cs'=>∃r,u= .p r/\cs'=mk (Xg b r (L.map λx=>(false,x)) none)):=λa w hf hi next Q h=>by
 obtain⟨es,clock,hb,hs,hL,hok⟩:=(show oc b L w from hi.get hu.has);have hlt:b<w.heap.size:=(Array.getElem?_eq_some_iff.1 hb).1;have ka:=run_range_map (P:=C.P) w T k e b es clock hT hb;have hr:(execOp a.eval ⟨d,.range T x,ty,pos,af,gd⟩).run C.P w= .ok (.value (.p w.heap.size)) (w.alloc (.mapIter (some b) clock #[] clock)):=by
  simp[execOp,hf.ev hx,ka]
 have hk:dc [b] w (w.alloc (.mapIter (some b) clock #[] clock)):=dc.TQ ((Below.refl _ _).alloc (aK _) _) _;unfold Oper.wp;rw[hr];refine h _ _ _ ⟨_,I,I⟩ (hi.upd (hu _) hk (nM hk ?_ ⟨es,clock,clock,#[],clock,((MapKept.heap_alloc w _).2 b hlt).trans hb,hs,zz w _,hs.1,aK _,aK _,?_,?_,by omega,λ_ _ e=>by cases e⟩ λb' hb'=>?_)) (λe=>by cases e)
 .simp[bJ.bs];omega
 .rw[List.map_map];have e1:=congrArg (List.map λp:Value×Value=>(false,p.1,p.2)) hL;simp only[List.map_map]at e1;have e2:(λe:MapEntry=>((#[]:Array Nat).contains e.born,e.key,e.val))=λe=>(false,e.key,e.val):=by funext e;simp
  rw[e2];exact e1
 .grind
 grind [bJ.bs]
theorem J5(hx:ev fr x=some (.p r))(hu:At cs (Xg b r IL cur) mk):
  VU C ⟨d,.next x false,ty,pos,af,gd⟩ fr cs true (λu cs'=>∃o:Jj,Sf IL o/\u= .tuple (Ia o).toArray/\cs'=mk (Xg b r (DT IL o) (K7 o))):=λa w hf hi next Q h=>by
 obtain⟨o,w',h1,h2,h3,h4⟩:=Pm (P:=C.P) (show Aj b r IL cur w from hi.get hu.has) ty
 have hne:b≠r:=by obtain⟨_,_,_,_,_,_,_,_,_,_,_,_,_,hne,_⟩:=h4;exact hne
 have hr:(execOp a.eval ⟨d,.next x false,ty,pos,af,gd⟩).run C.P w= .ok (.value (.tuple (Ia o).toArray)) w':=by simp[execOp,hf.ev hx,h2]
 unfold Oper.wp;rw[hr];exact h _ _ _ ⟨o,h1,I,I⟩ (hi.upd (hu _) h3 (nM h3 (by grind [bJ.bs]) h4 (λb hb=>Or.inl hb))) (λe=>by cases e)
theorem t_itdel(hx:ev fr x=some (.map (some b)))(hy:ev fr y=some (VI q))(hq:lD q)(hT:C.P.underlying T=some (.map k e))(hK:sj C.P k)(hu:At cs (Xg b r IL cur) mk):
  VU C ⟨d,.call {callee:= .builtin .delete,args:= #[x,y],argTypes:= #[T,k]},ty,pos,af,gd⟩ fr cs true (λu cs'=>u= .tuple #[]/\cs'=mk (Xg b r (wL IL q) none)):=λa w hf hi next Q h=>by
 obtain⟨w',h1,h2,h3⟩:=LP hT hK hq (show Aj b r IL cur w from hi.get hu.has) ty;have hne:b≠r:=by obtain⟨_,_,_,_,_,_,_,_,_,_,_,_,_,hne,_⟩:=h3;exact hne
 unfold Oper.wp;have hr:(execOp a.eval ⟨d,.call {callee:= .builtin .delete,args:= #[x,y],argTypes:= #[T,k]},ty,pos,af,gd⟩).run C.P w= .ok (.value (.tuple #[])) w':=by simp[execOp,resolve,invoke,builtin,hf.ev hx,hf.ev hy,h1]
 exact Wq455
theorem t_itput{j:Nat}{f:Bool}{v0:Value}(hj:IL[j]? =some (f,q,v0))(hx:ev fr x=some (.map (some b)))(hy:ev fr y=some (VI q))(hz:ev fr z=some v)(hT:C.P.underlying T=some (.map k e))(hK:sj C.P k)(hu:At cs (Xg b r IL cur) mk):
  VU C ⟨d,.mapUpdate T x y z,ty,pos,af,gd⟩ fr cs true (λu cs'=>u=undef/\cs'=mk (Xg b r (IL.set j (f,q,v)) none)):=λa w hf hi next Q h=>by
 obtain⟨w',h1,h2,h3⟩:=LO hT hK (show Aj b r IL cur w from hi.get hu.has) hj v;have hne:b≠r:=by obtain⟨_,_,_,_,_,_,_,_,_,_,_,_,_,hne,_⟩:=h3;exact hne
 unfold Oper.wp;have hr:(execOp a.eval ⟨d,.mapUpdate T x y z,ty,pos,af,gd⟩).run C.P w= .ok .skip w':=by simp[execOp,hf.ev hx,hf.ev hy,hf.ev hz,h1]
 exact Wq455
end
end
end Go.Ink
namespace Go.Ink
open List renaming length→J, replicate→R9
open IntKind renaming wrap→V9
open Go.RowKit Go.Proofs.Tryz
abbrev eu.of(p:UG×UI)(d:UF):eu:=⟨p.1,p.2,d⟩
section
attribute [local irreducible] Ve bN
theorem P2(op f:Int)(h:(df op f).2=false):(df op f).1=false:=by
 grind [df]
theorem mK(op n:Int)(R:UG)(h:(bW op n R).1=false):(bW op n R).2=R:=by
 grind [bW,df,P2]
variable{s:St}
theorem DV{q:(Nat×Nat)×(Nat×Nat)}(h:qo s q=0):q.1.1<=J s.d/\q.2.1<=J s.r:=by
 grind [qo]
theorem lv{op n:Int}(h:dQ s op n=0):(bV op).1.1<=J s.d/\(bV op).2.1<=J s.r:=by
 unfold dQ at h;revert h;refine Wq141 ?_;refine Wq141 ?_;exact DV
abbrev R8(r:WP)(X:dz)(Ap:Oa)(cp:Nat):List bJ:=[Vf r.s X.Ad X.cd,Vj r.s X.Ar X.cr,sl .i64 3 Ap (J r.SV) cp r.SV]
def otherN(op nn:Int)(R:UG):UG:=
 bif op==48 then RU R.pop R.top.toNat else
 bif op==49 then RU R.pop.pop R.top.toNat else
 bif op==50 then R.pop.wt ⟨10,R.top⟩else
 bif op==51 then R.pop.wt ⟨10,R.top⟩else
 bif op==52 then R.pop.wt ⟨10,R.top⟩else
 bif op==53 then R.pop.wt ⟨10,R.top⟩else
 bif op==64 then R.wt ⟨11,0⟩else
 bif op==65 then R.ws R.s.back else
 bif op==66 then R.push [((R.s.Ts R.count).get nn).1]else
 bif op==67 then R.pop.ws (R.pop.s.set nn R.top).1 else
 bif op==68 then R.pop else
 bif op==69 then R.ws R.s.halt else R
def BG(s:St)(op nn:Int):UG:=
 match cV op nn (fm s op)with
 |some R=>R
 |none=>bif(bW op nn (fm s op)).1 then(bW op nn (fm s op)).2 else otherN op nn (bW op nn (fm s op)).2
def XQ(s:St)(op nn:Int):WP:=
 bif !s.right then⟨s,false,false,[]⟩else
 bif dQ s op nn !=0 then⟨s.next.S3 (dQ s op nn) 0,true,false,[]⟩else
 Sx s (BG s op nn)
theorem _root_.Go.Ink.Inv.TS{w0 w w':World}{S:List Nat}{cs cin rest:List bJ}{Ad Ar:Oa}{cd cr:Nat}(hi:Inv w0 S cs w)(hp:ik cin cs rest)(h1:Vk rest (Vf s Ad cd))(h2:Vk rest (Vj s Ar cr))(hd:J s.d*4<=140737488355328)(hr:J s.r*4<=140737488355328)(hk:dc (bM cin) w w'):iL w' s Ad Ar cd cr:=
 ⟨hi.TU hp h1 hk,hi.TU hp h2 hk,hd,hr⟩
end
end Go.Ink
namespace Go.Ink
open List renaming length→J
open IntKind renaming wrap→V9
open Go.RowKit
variable{n:Nat}
variable{l:Li}
theorem UO.ok.calm{n:Nat}{M:UO}(h:M.ok n):M.calm.ok n:=⟨h.dl,h.db,az⟩
theorem TT{b:Li}(h:J b<=n*64)(hb:Vh b):(UO.init n b).ok n:=by
 refine⟨by simp[UO.init];omega,λx hx=>?_,az⟩;rcases aJ.1 hx with hx|hx
 .exact hb x hx
 grind
structure Wz(n:Nat)(U:UI):Prop where
 m:U.m.ok n
 t:J U.t=16
theorem UF.TT(h:J l<=1024)(hb:Vh l):(UF.init l).ok:=⟨init_wf h hb,u0,u0,u0,u0⟩
theorem IE{d:UF}(h:d.ok)(k count:Int):u32 (cE d k count).1.1/\(cE d k count).2.ok/\(cE d k count).2.out=d.out:=by
 have hi:=h.wf.inp;unfold cE;refine bL (λq:(Int×Bool)×UF=>u32 q.1.1/\q.2.ok/\q.2.out=d.out) ⟨h.S7,h,I⟩ ?_;refine bL (λq:(Int×Bool)×UF=>u32 q.1.1/\q.2.ok/\q.2.out=d.out) ⟨h.mask,h,I⟩ ?_;refine bL (λq:(Int×Bool)×UF=>u32 q.1.1/\q.2.ok/\q.2.out=d.out) ⟨h.timer,h,I⟩ ?_;refine bL (λq:(Int×Bool)×UF=>u32 q.1.1/\q.2.ok/\q.2.out=d.out) ⟨wrap_u32 _,h,I⟩ ?_;refine bL (λq:(Int×Bool)×UF=>u32 q.1.1/\q.2.ok/\q.2.out=d.out) ⟨u0,h,I⟩ ?_;refine bL (λq:(Int×Bool)×UF=>u32 q.1.1/\q.2.ok/\q.2.out=d.out) ⟨u0,h,I⟩ ?_;refine bL (λq:(Int×Bool)×UF=>u32 q.1.1/\q.2.ok/\q.2.out=d.out) ⟨gB_u32 h.wf.Uo 0,⟨⟨λx hx=>h.wf.Uo x (List.mem_of_mem_tail hx),h.wf.S8,h.wf.TP,h.wf.SS,h.wf.place,by grind⟩,h.S7,h.mask,h.timer,h.status⟩,rfl⟩ ?_
 grind [u32,jn,h.wf.SS,h.wf.place,h.status,u0]
variable{op:Int}{s s':St}{m:Li}
theorem Wi.of(P X Q Y:Li)(hn:bV op=((J P,J X),(J Q,J Y)))(wf:s'.wf)(fl:s'.flags<=15)(cnt:s'.count=s.count)
  (h1:s.d=l++P) (h2:s'.d=l++X) (h3:s.r=m++Q) (h4:s'.r=m++Y):Wi op s s':=by
 refine⟨wf,fl,cnt,?_,?_,?_,?_⟩
 .grind
 .grind
 .grind
 grind
theorem Kd{nn:Int}{R R':UG}(hw:R.s.wf)(hf:R.s.flags<=15)(hnn:u32 nn)(h1:(bV op).1.1<=J R.s.d)(h2:(bV op).2.1<=J R.s.r)(h:cV op nn R=some R'):Wi op R.s R'.s/\R'.S3=R.S3/\R'.device=R.device/\R'.count=R.count:=by
 by_cases e:op=0
 .subst e;obtain rfl:R=R':=aF h;exact⟨Wi.of (l:=R.s.d) (m:=R.s.r) [] [] [] [] I hw hf I cJ cJ cJ cJ,I,I,I⟩
 have e0:(op==0)=false:=by simpa using e
 by_cases e:op=1
 .exact Wq346
 have e1:(op==1)=false:=by simpa using e
 by_cases e:op=2
 .exact Wq346
 have e2:(op==2)=false:=by simpa using e
 by_cases e:op=3
 .subst e;obtain⟨R,l,x,rfl⟩:=UG.snoc (show 1<=J R.s.d from h1);rw[mF]at h;obtain rfl:=aF h;exact⟨Wi.of (l:=l) (m:=R.s.r) [x] [x,x] [] [] I (xf hw (by grind [hw.d])) hf rfl rfl rfl cJ cJ,rfl,rfl,rfl⟩
 have e3:(op==3)=false:=by simpa using e
 by_cases e:op=4
 .subst e;obtain⟨R,l,x,rfl⟩:=UG.snoc (show 1<=J R.s.d from h1);rw[lm]at h;obtain rfl:=aF h;exact⟨Wi.of (l:=l) (m:=R.s.r) [x] [] [] [] I (xf hw (tA hw.d)) hf I I cJ cJ cJ,I,I,I⟩
 have e4:(op==4)=false:=by simpa using e
 by_cases e:op=5
 .subst e;obtain⟨R,l,x,y,rfl⟩:=UG.TF (show 2<=J R.s.d from h1);rw[lh]at h;obtain rfl:=aF h;have hd:∀z,z∈(l++[x])++[y]->u32 z:=hw.d;exact⟨Wi.of (l:=l) (m:=R.s.r) [x,y] [y,x] [] [] I (xf hw bZ) hf I cJ I cJ cJ,I,I,I⟩
 have e5:(op==5)=false:=by simpa using e
 by_cases e:op=6
 .subst e;obtain⟨R,l,x,y,rfl⟩:=UG.TF (show 2<=J R.s.d from h1);rw[lj]at h;obtain rfl:=aF h;have hd:∀z,z∈(l++[x])++[y]->u32 z:=hw.d;exact⟨Wi.of (l:=l) (m:=R.s.r) [x,y] [x,y,x] [] [] I (xf hw bZ) hf I cJ I cJ cJ,I,I,I⟩
 have e6:(op==6)=false:=by simpa using e
 by_cases e:op=7
 .subst e;obtain⟨R,l,x,rfl⟩:=UG.snoc (show 1<=J R.s.d from h1);rw[mE]at h;obtain rfl:=aF h;have hd:∀z,z∈l++[x]->u32 z:=hw.d;exact⟨Wi.of (l:=l) (m:=R.s.r) [x] [] [] [x] I (wf_r (xf hw (tA hd)) (QR hw.r (yd hd))) hf I I cJ cJ I,I,I,I⟩
 have e7:(op==7)=false:=by simpa using e
 by_cases e:op=8
 .subst e;obtain⟨R,l,x,rfl⟩:=UG.Ue (show 1<=J R.s.r from h2);rw[ki]at h;obtain rfl:=aF h;have hd:∀z,z∈l++[x]->u32 z:=hw.r;exact⟨Wi.of (l:=R.s.d) (m:=l) [] [x] [x] [] I (xf (wf_r hw (tA hd)) (QR hw.d (yd hd))) hf I cJ I I cJ,I,I,I⟩
 grind [nw]
structure wA(n:Nat)(op:Int)(s:St)(d:UF)(m:eu):Prop where
 u:Wz n m.u
 dv:m.d.ok
 o:J m.d.out<=J d.out+1
 t:W9 m.r.S3
 did:m.r.S3.SU=0->Wi op s m.r.s
theorem get_u32(h:s.wf)(reg:Int):u32 (s.get reg).1:=by
 have hb:∀b,u32 (Vx b):=λb=>by cases b;exact u0;exact u1
 unfold St.get;refine bL (λq:Int×Bool=>u32 q.1) (hb _) ?_;refine bL (λq:Int×Bool=>u32 q.1) (hb _) ?_
 grind [u32,h.root,h.vec,h.epc,h.SU,h.addr,wrap_u32,h.flags,u0]
section
variable{n:Nat}{op:Int}{d:UF}
theorem rc:J cX=16:=az
structure Goes(n:Nat)(s:St)(d:UF)(q:WP×UI×UF):Prop where
 wf:q.1.s.wf
 right:q.1.s.right=true
 cnt:q.1.s.count=V9 .u64 (s.count+1)
 u:Wz n q.2.1
 dv:q.2.2.ok
 o:J q.2.2.out<=J d.out+1
theorem DW{q:(Nat×Nat)×(Nat×Nat)}(h:qo s q=0):(J s.d:Int) - q.1.1+q.1.2<=16/\(J s.r:Int) - q.2.1+q.2.2<=16:=by
 grind [qo]
theorem Cu{n:Int}(h:dQ s op n=0):(J s.d:Int) - (bV op).1.1+(bV op).1.2<=16/\(J s.r:Int) - (bV op).2.1+(bV op).2.2<=16:=by
 unfold dQ at h;revert h;refine Wq81 ?_;refine Wq81 ?_;exact DW
end
end Go.Ink
namespace Go.Ink
open List renaming length→J
open IntKind renaming wrap→V9
open Go.RowKit Go.Proofs.Tryz
section
attribute [local irreducible] Ve bN
variable{x:Int}
theorem yM(l:Li)(x y:Int):(l++[x]).set (J l) y=l++[y]:=by
 rw[List.set_append_right _ _ (aK _),Nat.sub_self]
 rfl
theorem fI{W:World}{k:IntKind}{A:Oa}{c:Nat}{b:Li}(h:Rd W k A (J b) c b)(m:Nat):Rd W k A (J (b.take m)) c (b.take m):=by
 refine⟨by simp[ints],?_,h.max,λe=>?_,λad e j u hu=>h.at_ ad e j u ?_⟩
 .have:=h.cap;rw[aO];omega
 .have:=h.nil e;rw[aO];omega
 unfold ints at hu|-;rw[List.getElem?_map]at hu|-;rw[List.getElem?_take]at hu;by_cases hj:j<m
 .simpa[hj]using hu
 simp[hj]at hu
theorem sO(A:Oa)(c:Nat)(l:Li)(k:Nat)(w:World)(hc:J l<=c):CW prog 13 [.slice A (J l) c,.i k] w (.slice A (J (l.take k)) c):=by
 rw[aO,Nat.min_comm];refine UV func13 ntmps13 ?_;refine uf ?_ ?_<;>intro hc1
 .simp only[ai]at hc1;have e:min (J l) k=k:=by omega
  rw[e];refine UK ?_;refine Zy (fc k I ir (Zv I) (Zv I) qR UL) ?_;exact qP
 simp only[aa]at hc1;have e:min (J l) k=J l:=by omega
 rw[e];refine U8 ?_;exact wQ
section
variable{D R:Li}
theorem kH(c:List II)(x:II):eE D R (c++[x]) (J c)=lz D R (Tv D R c) x:=by
 grind [eE,lT,tN]
end
section
variable{s:St}{op nn:Int}
theorem Sy{R:UG}(hs:s.right=true)(hp:dD op=true)(ho:eJ op nn=true)(hm:BG s op nn=R)(ht:R.S3=Tr.none)(hv:R.device=false)
  (h1:(bV op).1.1<=J s.d) (h2:(bV op).2.1<=J s.r) (h3:J s.d+(bV op).1.2<=16+(bV op).1.1) (h4:J s.r+(bV op).2.2<=16+(bV op).2.1):
  XQ s op nn=⟨R.s,false,false,[]⟩:=by
 have hn:qo s (bV op)=0:=by
  unfold qo;rw[show decide ((J s.d:Int)<((bV op).1.1:Int))=false from ao O,show decide ((J s.r:Int)<((bV op).2.1:Int))=false from ao O,
   show decide (16<(J s.d:Int) - ((bV op).1.1:Int)+((bV op).1.2:Int))=false from ao O,show decide (16<(J s.r:Int) - ((bV op).2.1:Int)+((bV op).2.2:Int))=false from ao O]
  rfl
 have hc:=jr hp;have e1:lC op=false:=by unfold lC;rw[show decide (65<=op)=false from ao O];rfl
 have e2:(op==66)=false:=by simp;omega
 have e3:(op==67)=false:=by simp;omega
 unfold XQ dQ;rw[hs,ho,hn,e1,e2,e3,hm];show Sx s R=_;unfold Sx;rw[ht,hv]
 rfl
theorem FH(h:33<=op/\op<=37)(R:UG):cV op nn R=none/\bW op nn R=(true,bif(df op R.s.flags).1 then R.wpc (gq R nn)else R):=by
 have h:op=33\/op=34\/op=35\/op=36\/op=37:=by omega
 rcases h with rfl|rfl|rfl|rfl|rfl<;>exact⟨I,I⟩
end
def rV(D R:Li)(w:Lw)(op nn nx f:Int):Int:=
 bif(df w.branch f).1 then V9 .u32 (nx+jN nn)else bif w.target== -1 then(bif op==32||op==38 then V9 .u32 (nx+jN nn)else nx)else eE D R w.code w.target
section
variable{D R:Li}{op nn:Int}{w':Lw}
theorem ue{nx f:Int}(hb:w'.branch=0)(ht:w'.target= -1)(h:(op==32||op==38)=false):rV D R w' op nn nx f=nx:=by
 unfold rV;rw[hb,ht,h];rfl
theorem FY{c:List II}{a b y:Int}(k6:eE D R c a=x)(k4:eE D R c b=y):eE D R (c++[⟨4,J c,a,b,op⟩]) (J c)=(hI op x y).2.1:=by
 rw[kH,<-k6,<-k4];rfl
theorem alu_new{c:List II}{a b y:Int}(k6:eE D R c a=x)(k4:eE D R c b=y):eE D R (c++[⟨3,J c,a,b,op⟩]) (J c)=(hI op x y).1:=by
 rw[kH,<-k6,<-k4];rfl
end
end
end Go.Ink
namespace Go.Ink
open List renaming length→J
open IntKind renaming wrap→V9
open Go.RowKit Go.Proofs.Tryz
set_option maxHeartbeats 1000000
variable{x:Int}
variable{a b:Int}
variable{n:Int}
theorem Mk{s:St}(h:0<=n):(s.get n).2=decide (n<=10):=by
 by_cases hn:n<=10
 .obtain rfl|rfl|rfl|rfl|rfl|rfl|rfl|rfl|rfl|rfl|rfl:n=0\/n=1\/n=2\/n=3\/n=4\/n=5\/n=6\/n=7\/n=8\/n=9\/n=10:=by omega
  all_goals rfl
 have e:∀k:Int,k<=10->(n==k)=false:=λk hk=>by simp only[bF,ne_eq];omega
 rw[ao hn];unfold St.get;simp[e]
section
attribute [local irreducible] Ve bN
theorem oz(op:Int)(w:World):CW prog 127 [.i op] w (.i (cB op)):=by
 rw[<-yJ];refine UV func127 ntmps127 ?_;refine uf ?_ ?_<;>intro hc1
 .refine fS ?_;exact XZ
 refine jS ?_;refine VP ?_ ?_<;>intro hc3
 .refine fS ?_;exact XZ
 refine jS ?_;refine jS ?_;refine VP ?_ ?_<;>intro hc5
 .refine fS ?_;exact XZ
 refine jP ?_;exact XZ
theorem Bh(op n:Int)(hn:u32 n)(w:World):CW prog 210 [.agg #[.i op,.w n]] w (.bool (eJ op n)):=by
 have HZ:=oz op;obtain⟨z,hz⟩:=Do (cB op);have hz4:z=0\/z=1\/z=2\/z=5:=by
  rw[<-hz,<-yJ];unfold yL;exact bL (λz:Int=>z=0\/z=1\/z=2\/z=5) ne (bL (λz:Int=>z=0\/z=1\/z=2\/z=5) ne (bL (λz:Int=>z=0\/z=1\/z=2\/z=5) ne ne))
 have e:(((z==5)||((z==2)&&decide (n<256)))||((z==1)&&(n==0)))=eJ op n:=by
  unfold eJ;have e2:decide (n<256)=decide (n<=255):=decide_eq_decide.2 O
  rw[hz,e2];rcases hz4 with rfl|rfl|rfl|rfl<;>simp
 rw[<-e];rw[hz]at HZ;refine UV func210 ntmps210 ?_;refine An ?_;refine ZO λb1=>?_;refine US ?_;refine UZ (λw hi=>HZ w) ?_;refine jS ?_;refine U8 ?_;exact wQ
theorem Dp(op:Int)(w:World):CW prog 211 [.i op] w (.bool (lC op)):=by
 refine UV func211 ntmps211 ?_;exact WW
theorem Dv(op:Int)(w:World):CW prog 209 [.i op] w (.agg (kk (bV op)).toArray):=by
 rw[<-K8];refine UV func209 ntmps209 ?_;refine An ?_;refine ZN λb2=>?_;refine oO ?_;refine ZW ?_ ?_<;>intro hc2
 .refine An ?_;refine bY I (hc2) (wY ?_);exact Xb
 refine UH ?_ ?_<;>intro hc3
 .refine An ?_;refine bY I (hc3) (wY ?_);exact Xb
 refine Wh ?_ ?_<;>intro hc4
 .exact V4
 refine UH ?_ ?_<;>intro hc6
 .exact V4
 refine VJ ?_ ?_<;>intro hc8
 .refine An ?_;refine bY I (hc8) (wY ?_);exact Xb
 refine UH ?_ ?_<;>intro hc9
 .refine An ?_;refine bY I (hc9) (wY ?_);exact Xb
 refine UH ?_ ?_<;>intro hc10
 .refine Eu ?_;exact V4
 refine Wh ?_ ?_<;>intro hc11
 .exact V4
 refine UH ?_ ?_<;>intro hc13
 .exact V4
 refine UH ?_ ?_<;>intro hc15
 .exact V4
 refine UH ?_ ?_<;>intro hc17
 .exact V4
 refine UH ?_ ?_<;>intro hc19
 .exact V4
 refine VJ ?_ ?_<;>intro hc21
 .refine An ?_;refine bY I (hc21) (wY ?_);exact Xb
 refine UH ?_ ?_<;>intro hc22
 .refine An ?_;refine bY I (hc22) (wY ?_);exact Xb
 refine UH ?_ ?_<;>intro hc23
 .refine An ?_;refine bY I (hc23) (wY ?_);exact Xb
 refine Wh ?_ ?_<;>intro hc24
 .exact V4
 refine VJ ?_ ?_<;>intro hc26
 .refine An ?_;refine bY I (hc26) (wY ?_);exact Xb
 refine UH ?_ ?_<;>intro hc27
 .refine An ?_;refine bY I (hc27) (wY ?_);exact Xb
 refine Wh ?_ ?_<;>intro hc28
 .exact V4
 refine UH ?_ ?_<;>intro hc30
 .exact V4
 refine UH ?_ ?_<;>intro hc32
 .exact V4
 refine uf ?_ ?_<;>intro hc34
 .refine UN ?_;refine ij ?_;exact Wx81_
 refine UQ ?_;refine oV ?_;exact Wx81_
theorem raw_ok(op a b:Int)(ha:u32 a)(hb:u32 b)(w:World):CW prog 272 [.i op,.w a,.w b] w (.tuple #[.w (gL op a b).1,.w (jY (gL op a b).2.1.1 (gL op a b).2.1.2),.bool (gL op a b).2.2]):=by
 have ha1:=ha.1;have ha2:=ha.2;have hb1:=hb.1;have hb2:=hb.2;refine UV func272 ntmps272 ?_;refine jS ?_;refine ZW ?_ ?_<;>intro hc2
 .refine UK ?_;refine kZ ?_;refine fR ?_;refine IS ?_;refine ZA ?_;refine IS ?_;refine Zy (dy (Zv I) (Zv I) (u64_wrap_id _ O O)) ?_;refine VP ?_ ?_<;>intro hc5
  .refine Va ?_;refine qT ?_;refine ZA ?_;refine qT ?_;refine Zy (ly (Zv I) (Zv I) (Fc ha hb)) ?_;refine Wq48 ?_;refine VP ?_ ?_<;>intro hc7
   .exact Xi
   exact Xh
  refine UU ?_;refine qT ?_;refine ZA ?_;refine qT ?_;refine Zy (ly (Zv I) (Zv I) (Fc ha hb)) ?_;refine Wq48 ?_;refine VP ?_ ?_<;>intro hc7
  .exact Xi
  exact Xh
 refine VJ ?_ ?_<;>intro hc10
 .refine Eu ?_;refine UK ?_;refine sa ?_;refine oO ?_;refine ZW ?_ ?_<;>intro hc14
  .refine Va ?_;refine Rh ?_;refine VP ?_ ?_<;>intro hc16
   .exact Xi
   exact Xh
  refine UU ?_;refine Rh ?_;refine VP ?_ ?_<;>intro hc16
  .exact Xi
  exact Xh
 refine Wh ?_ ?_<;>intro hc11
 .refine UK ?_;refine sa ?_;refine oO ?_;refine ZW ?_ ?_<;>intro hc14
  .refine Va ?_;refine Rh ?_;refine VP ?_ ?_<;>intro hc16
   .exact Xi
   exact Xh
  refine UU ?_;refine Rh ?_;refine VP ?_ ?_<;>intro hc16
  .exact Xi
  exact Xh
 refine UH ?_ ?_<;>intro hc19
 .refine mv ?_;exact V5
 refine UH ?_ ?_<;>intro hc21
 .refine mv ?_;exact V5
 refine UH ?_ ?_<;>intro hc23
 .refine mv ?_;exact V5
 refine UH ?_ ?_<;>intro hc25
 .refine VJ ?_ ?_<;>intro hc26
  .refine gP ?_;exact V5
  refine UU ?_;refine IY ?_;refine Va ?_;exact V5
 refine UH ?_ ?_<;>intro hc29
 .refine VJ ?_ ?_<;>intro hc30
  .refine gP ?_;exact V5
  refine UU ?_;refine qT ?_;refine Va ?_;exact V5
 refine UH ?_ ?_<;>intro hc33
 .refine UK ?_;refine Zy (fT py py I) ?_;refine Va ?_;exact V5
 refine UH ?_ ?_<;>intro hc35
 .refine UH ?_ ?_<;>intro hc36
  .refine UK ?_;have hb0:b≠0:=(by simpa using hc36);refine Zy (kf (Zv I) (Zv I) O I) ?_;refine Va ?_;exact V5
  refine gP ?_;exact V5
 refine gP ?_;exact V5
theorem Dw(op f:Int)(w:World):CW prog 273 [.i op,.w f] w (.tuple #[.bool (df op f).1,.bool (df op f).2]):=by
 refine UV func273 ntmps273 ?_;refine Jm ?_;refine ZW ?_ ?_<;>intro hc2
 .exact Wm
 refine UH ?_ ?_<;>intro hc4
 .exact Wm
 refine UH ?_ ?_<;>intro hc6
 .exact Wm
 refine UH ?_ ?_<;>intro hc8
 .exact Wm
 refine UH ?_ ?_<;>intro hc10
 .exact Wm
 refine eL ?_;refine po ?_;refine⟨?_,I⟩;exact tG
theorem Hi(b:Int)(hb:u32 b)(w:World):CW prog 274 [.w b] w (.w (jN b)):=by
 have hb1:=hb.1;have e:=OJ hb;refine UV func274 ntmps274 ?_;refine Va ?_;refine Zy (fG (Zv I) (Zv I) O (show _=b%256 from aq hb1)) ?_;refine oU ?_ ?_<;>intro hc2
 .rw[if_pos (by simpa using hc2)]at e;rw[e];refine UN ?_;refine sa ?_;exact qP
 rw[if_neg (by simpa using hc2)]at e;rw[e];refine U8 ?_;exact wQ
theorem OD(l:Li)(x y:Int):((((l++[x])++[y]).set (J l+1) x).set (J l) y)=l++[y,x]:=by
 have e1:((l++[x])++[y]).set (J l+1) x=(l++[x])++[x]:=by
  have h:=yM (l++[x]) y x;rw[ar]at h;exact h
 rw[e1,aw,List.set_append_right _ _ (aK _),Nat.sub_self]
 rfl
end
end Go.Ink
namespace Go.Ink
open List renaming length→J, replicate→R9
open IntKind renaming wrap→V9
open Go.RowKit Go.Proofs.Tryz
section
attribute [local irreducible] Ve bN
variable{w0:World}{cs:List bJ}
theorem M9(A A2:Oa)(c c2:Nat)(xs ys:Li)(hx:Vh xs)(hy:Vh ys)(w:World)(h:Rd w .u8 A (J xs) c xs)(h2:Rd w .u8 A2 (J ys) c2 ys):
  CW prog 224 [.slice A (J xs) c,.slice A2 (J ys) c2] w (.bool (xs==ys)):=by
 refine UV func224 ntmps224 ?_;refine Va ?_;refine eU (λw hi=>iO (h.Tb hi)) (λhrd6=>?_);refine dZ (iM I I I py hrd6) (λw hi=>U5.Tn (h.Tb hi)) I (ZA ?_);refine eU (λw hi=>iO (h2.Tb hi)) (λhrd8=>?_);refine dZ (iM I I I py hrd8) (λw hi=>U5.Tn (h2.Tb hi)) I (Zy (uj I (Zv I) (Zv I) (qf hx hy)) ?_);exact mZ
variable{w:World}
theorem iU.old(h:iU w0)(hi:Inv w0 [] cs w):iU w:=U5.Tb h hi
theorem zE(op:Int)(w:World):CW prog 202 [.i op] w (.bool (gz op)):=by
 refine UV func202 ntmps202 ?_;refine jS ?_;exact qP
variable{op:Int}
variable{nn:Int}
theorem G5(h:0<=op/\op<=8)(nn:Int)(R:UG):∃R',cV op nn R=some R'/\R'.S3=R.S3/\R'.device=R.device:=by
 obtain rfl|rfl|rfl|rfl|rfl|rfl|rfl|rfl|rfl:op=0\/op=1\/op=2\/op=3\/op=4\/op=5\/op=6\/op=7\/op=8:=by omega
 all_goals exact⟨_,rfl,rfl,rfl⟩
theorem AO(h:9<=op)(nn:Int)(R:UG):cV op nn R=none:=by
 have e:∀k:Int,k<=8->(op==k)=false:=λk hk=>by simp only[bF,ne_eq];omega
 exact nw nn R (e 0 ne) (e 1 ne) (e 2 ne) (e 3 ne) (e 4 ne) (e 5 ne) (e 6 ne) (e 7 ne) (e 8 ne)
theorem PR(h:32<=op/\op<=40)(nn:Int)(R:UG):(bW op nn R).1=true/\(bW op nn R).2.S3=R.S3/\(bW op nn R).2.device=R.device:=by
 have key:∀c (g:Bool),(bif c then R.wpc (gq R nn)else R).S3=R.S3/\(bif c then R.wpc (gq R nn)else R).device=R.device:=λc g=>by cases c<;>exact⟨I,I⟩
 obtain rfl|rfl|rfl|rfl|rfl|rfl|rfl|rfl|rfl:op=32\/op=33\/op=34\/op=35\/op=36\/op=37\/op=38\/op=39\/op=40:=by omega
 .exact⟨I,I,I⟩
 .exact⟨I,key _ true⟩
 .exact⟨I,key _ true⟩
 .exact⟨I,key _ true⟩
 .exact⟨I,key _ true⟩
 .exact⟨I,key _ true⟩
 .exact⟨I,I,I⟩
 .exact⟨I,I,I⟩
 exact⟨I,I,I⟩
theorem Hs(h:41<=op)(nn:Int)(R:UG):bW op nn R=(false,R):=by
 have e:∀k:Int,k<=40->(op==k)=false:=λk hk=>by simp only[bF,ne_eq];omega
 have r:(decide (16<=op)&&decide (op<=25))=false:=by rw[Bool.and_eq_false_iff,aa,aa];omega
 unfold bW df;simp only[r,e 38 ne,e 32 ne,e 39 ne,e 40 ne,e 33 ne,e 34 ne,e 35 ne,e 36 ne,e 37 ne,ac]
theorem Eo{s:St}(h:dQ s op nn=0):eJ op nn=true:=by
 unfold dQ at h;cases e:eJ op nn with
 |true=>rfl
 |false=>rw[e]at h;cases h
end
end Go.Ink
namespace Go.Ink
open List renaming length→J, replicate→R9
open IntKind renaming wrap→V9
open Go.RowKit
section
variable{pl:Pl}
theorem zD(n into:Int):J (kr pl n into)<=1:=by grind [kr]
theorem PP(n r:Int):J (jv pl n r)<=1:=by grind [jv]
theorem outL_le(base f:Int):∀(c:Li) (n:Nat),J (zi pl base f c n)<=2*J c
 :=by intro y1;induction y1<;>grind [zD,kr,zi]
end
end Go.Ink
namespace Go.Ink
open List renaming length→J, replicate→R9
open IntKind renaming wrap→V9
open Go.RowKit Go.Proofs.Tryz
variable{i:HI}{l:List HI}
section
variable{pl:Pl}{N:Nat}
variable{n into:Int}
theorem vI(h:pl.has n)(hi:0<=into/\into<=15):0<=eQ pl n into/\eQ pl n into<=15:=by
 unfold eQ;rcases h with⟨h1,h2⟩|⟨h1,h2,h3⟩
 .grind [Pl.inR]
 grind
theorem Ee(hp:∀k:Nat,k<N->pl.has k)(h:0<=n/\n<N):pl.has n:=by
 have:=hp n.toNat O
 grind
end
section
attribute [local irreducible] Ve bN
theorem Ec(n:Int)(w:World):CW prog 345 [.i n] w (.bool (decide (0<=n)&&decide (n<16))):=by
 refine UV func345 ntmps345 ?_;exact WW
theorem za{l:Li}(h:r64 l)(n:Nat):0<=l.getD n 0/\l.getD n 0<=18446744073709551615:=by
 rw[aS];by_cases hn:n<J l
 .rw[ak hn];exact h _ (List.getElem_mem hn)
 grind
abbrev jw(R:Li)(bw:Nat)(Ac:Oa)(n cc:Nat)(pc:Int):List Value:=ints .u64 R++[.slice (sA bw) 256 256,.slice Ac n cc,.i pc]
section
variable{R:Li}{bw n cc:Nat}{Ac:Oa}{pc:Int}
theorem Sq(h:J R=16):J (jw R bw Ac n cc pc)=19:=by simp[ints,h]
theorem YC(h:J R=16)(k:Nat):(jw R bw Ac n cc pc)[16+k]? =[Value.slice (sA bw) 256 256,.slice Ac n cc,.i pc][k]? :=by
 grind [ints,dF]
theorem N0(h:J R=16):(jw R bw Ac n cc pc)[16]? =some (.slice (sA bw) 256 256):=YC h 0
theorem hm_c(h:J R=16):(jw R bw Ac n cc pc)[17]? =some (.slice Ac n cc):=YC h 1
theorem YB(h:J R=16):(jw R bw Ac n cc pc)[18]? =some (.i pc):=YC h 2
theorem hm_r(h:J R=16){k:Nat}(hk:k<16):(jw R bw Ac n cc pc)[k]? =some (.int .u64 (R.getD k 0)):=by
 grind [ints,lr]
end
theorem BV(b:Bool)(w:World):CW prog 346 [.bool b] w (.int .u64 (Vx b)):=by
 refine UV func346 ntmps346 ?_;refine yh ?_ ?_<;>intro hc1
 .subst hc1;refine US ?_;exact wQ
 subst hc1;refine fS ?_;exact fx
abbrev ge(bm bw:Nat)(Ac:Oa)(n cc:Nat)(R:Li)(pc:Int):bJ:=row bm (jw R bw Ac n cc pc) 375
end
end Go.Ink
namespace Go.Ink
open List renaming length→J, replicate→R9
open IntKind renaming wrap→V9
open Go.RowKit Go.Proofs.Tryz
variable{l:List (Int×Int)}{k:Nat}{i:Int×Int}
section
attribute [local irreducible] Ve bN
variable{b:Li}
variable{W:World}
theorem Fo{A:Oa}{c N m:Nat}{l:Li}(h:Rd W .u8 A (J l) c l)(hN:min (J l) m=N):Rd W .u8 A N c (l.take N):=by
 have h2:=fI h N;rwa[uG hN]at h2
theorem mM(b:Li):∀(k sz:Nat),lJ b sz (cQ b k sz).1 (cQ b k sz).2.1/\(cQ b k sz).1.length<=k/\((cQ b k sz).1≠[]->(cQ b k sz).2.2=gz ((cQ b k sz).1.getLastD (0,0)).1)/\((cQ b k sz).1=[]->(cQ b k sz).2.2=false)
 |0,sz=>⟨.nil sz,aK _,λh=>absurd I h,λ_=>I⟩
 |k+1,sz=>by
  unfold cQ;cases hd:dI (b.drop sz)with
  |none=>exact⟨.nil sz,ax _,λh=>absurd I h,λ_=>I⟩
  |some q=>
   obtain⟨i,z⟩:=q;dsimp only;cases hp:dD i.1 with
   |false=>exact⟨.nil sz,ax _,λh=>absurd I h,λ_=>I⟩
   |true=>
    rw[ah];cases he:gz i.1 with
    |true=>exact⟨.cons hd (.nil _),by simp,λ_=>he.symm,λh=>by cases h⟩
    |false=>
     rw[ac];obtain⟨h1,h2,h3,h4⟩:=mM b k (sz+z);refine⟨.cons hd h1,Nat.succ_le_succ h2,λ_=>?_,λh=>by cases h⟩
     grind
end
end Go.Ink
namespace Go.Ink
open List renaming length→J, replicate→R9
open IntKind renaming wrap→V9
open Go.RowKit Go.Proofs.Tryz
variable{α:Type}{l:List α}
variable{a:Int}
section
variable{C:Cx}{Q:lK}{fr:Fr}{cs:List bJ}
theorem BS(w:World):Inv w [] [dm []] w:=⟨dc.refl _ _,by simp[bM,dm,Wg,bJ.bs],λc hc=>by
 rw[aX]at hc;subst hc;exact⟨(),trivial,by simp[bM],λc hc=>by cases hc⟩,λb hb=>by grind [bM,Wg,bJ.bs]⟩
theorem pW{ops:Array Oper}{l:List Oper}(h:WL C ops Q l fr (cs++[dm []])):WL C ops Q l fr cs:=λa w hf hi=>h a w hf (hi.more (BS w))
end
end Go.Ink
namespace Go.Ink
open List renaming length→J
open IntKind renaming wrap→V9
open Go.RowKit Go.Proofs.Tryz
section
variable{cs cin rest:List bJ}
variable{w0 w:World}{S:List Nat}
theorem Inv.Ud(h:Inv w0 S (dm cin::rest) w):Inv w0 S (cin++rest) w:=by
 grind [h.T9]
theorem Inv.Uz(h:Inv w0 S cs w)(hs:ik cin cs rest):Inv w0 S (dm cin::rest) w:=
 Inv.TK (F:=λ_:Unit=>cin) (hb:=λ_=>I) (p:=λ_=>True) () trivial (h.perm hs.perm)
end
theorem LM(pl:Pl)(n r:Int):J (jv pl n r)<=1:=by grind [jv]
end Go.Ink
namespace Go.Ink
open List renaming length→J, replicate→R9
open IntKind renaming wrap→V9
open Go.RowKit Go.Proofs.Tryz
theorem Fv(pl:Pl)(base f:Int):∀(c:Li) (k:Nat),J (zi pl base f c k)<=2*J c
 :=by intro y1;induction y1<;>grind [kq,kr,zi]
section
attribute [local irreducible] Ve bN
theorem om(pl:Pl)(b f w:Int)(o:Li):J (jg pl b f w o)<=2*J o+3:=by
 simp[Fv,jg]
end
end Go.Ink
