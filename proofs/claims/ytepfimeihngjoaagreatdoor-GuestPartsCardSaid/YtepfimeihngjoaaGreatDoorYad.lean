/- Lemmas. -/
import Derived.Test.YtepfimeihngjoaaGreatDoorYab
import Derived.Test.YtepfimeihngjoaaGreatDoorYac
set_option linter.all false
set_option maxRecDepth 100000
set_option maxHeartbeats 4000000
namespace Go.Ink
open List renaming length→J
open IntKind renaming wrap→V9
open Go.RowKit Go.Proofs.Tryz
section
variable{C:Cx}{Q:kW}{fr:Fr}{cs:List bH}{ops:Array Oper}{d:Nat}{op:Op}{ty:TypeId}{pos:String}{af:Array Edge}{gd:Option (Nat×Bool)}{V:World->Prop}{v:Value}{g:Bool}{St:Dr}{i:Nat}{s:List (Nat×Nat)}
theorem NA(L:List (Nat×List (Nat×Nat)))(hc:Forks ops St.st s L=true)(h:XP C St ops Q fr cs L):WS C St ops Q s fr cs:=λfuel listed hf hL _ hn=>by
 simp only[Forks,aC,List.all_eq_true,mD,Nat.blt_eq,Bool.or_eq_true,List.any_eq_true,Bool.not_eq_true']at hc
 obtain⟨⟨⟨c1,c2⟩,c3⟩,c4⟩:=hc
 have hs0:s≠[]:=by
  intro e
  cases L with
  |nil=>cases c3
  |cons p L=>grind
 obtain⟨fuel,rfl⟩:∃m,fuel=m+1:=⟨fuel - 1,by grind [List.length_pos_iff]⟩
 have hready:∀j,j∈Region.ready .any ops listed->j∈L.map (·.1):=λj hj=>by
  obtain⟨hun,oj,hoj,hall⟩:=mem_ready.1 hj
  obtain⟨q,hq,e3,e4⟩:=oA (ops:=ops) ((hL.iff j).1 hun)
  rcases c1 q hq with h1|⟨e,he,h1⟩
  .grind
  obtain⟨z,z1,z2,z3⟩:=(lM (e4 oj hoj)).1 he
  have hz:=hall z z1 z2
  have hf:=(hL.iff e).2 h1
  grind
 have hne:Region.ready .any ops listed≠[]:=by
  cases L with
  |nil=>cases c3
  |cons p L=>
   obtain⟨c5,c6⟩:=c4 p cE
   obtain⟨⟨⟨⟨⟨d1,d2⟩,d3⟩,d4⟩,d5⟩,d6⟩:=c2 p cE
   obtain⟨o,ho⟩:∃o,ops[p.1]? =some o:=⟨_,Array.getElem?_eq_getElem c6⟩
   intro h0
   have:p.1∈Region.ready .any ops listed:=mem_ready.2 ⟨(hL.iff _).2 d2,o,ho,λe he hb=>by
    obtain⟨-, -,hk⟩:=mv (p:=(p.1,0)) ho
    obtain⟨f1,f2⟩:=c5 e.on ((lM hk).2 ⟨e,he,hb,I⟩)
    have f3:e.on∉s.map (·.1):=λhm=>by grind [mD]
    cases hg:listed.getD e.on true with
    |true=>
     grind [hL.size]
    |false=>exact absurd ((hL.iff e.on).1 hg) f3⟩
   grind
 intro a w hfr hi'
 refine⟨λh0=>absurd h0 hne,λj hj=>?_⟩
 obtain⟨p,hp,rfl⟩:=List.mem_map.1 (hready j hj)
 obtain⟨⟨⟨⟨⟨d1,d2⟩,d3⟩,d4⟩,d5⟩,d6⟩:=c2 p hp
 have d3':p.1∉p.2.map (·.1):=λhm=>by grind [mD]
 refine h.get p hp fuel listed O (XW.step (hL.set λj=>?_) d3') d6 hn a w hfr hi'
 grind [Nat.eq_of_beq_eq_true,List.mem_cons_of_mem]
variable{st:Bool}{K:Value->List bH->Prop}
theorem lv(hi:ops[i]? =some ⟨some d,op,ty,pos,af,none⟩)(hst:St.st i=st)
  (ht:Vx C ⟨some d,op,ty,pos,af,none⟩ fr cs st K) (hJ:st=true->∀v cs',K v cs'->∀w,Inv C.w0 C.S cs' w->cells St.l0 w) (hd:Nat.blt d C.N=true) (h:∀v cs',K v cs'->WS C St ops Q s ((d,v)::fr) cs'):WSI C St ops Q i s fr cs:=λfuel listed h1 h2 h3 h4=>
 jX hi hst ht hJ hd λv cs' hk=>h v cs' hk fuel _ h1 h2 h3 h4
theorem rS(hi:ops[i]? =some ⟨none,op,ty,pos,af,none⟩)(hst:St.st i=st)
  (ht:Vx C ⟨none,op,ty,pos,af,none⟩ fr cs st K) (hJ:st=true->∀v cs',K v cs'->∀w,Inv C.w0 C.S cs' w->cells St.l0 w) (h:∀v cs',K v cs'->WS C St ops Q s fr cs'):WSI C St ops Q i s fr cs:=λfuel listed h1 h2 h3 h4=>
 ft hi hst ht hJ λv cs' hk=>h v cs' hk fuel _ h1 h2 h3 h4
theorem rR(hi:ops[i]? =some ⟨some d,op,ty,pos,af,gd⟩)(hst:St.st i=st)
  (hg:bM ops fr ⟨some d,op,ty,pos,af,gd⟩ g) (hg1:g=true)
  (ht:Vx C ⟨some d,op,ty,pos,af,gd⟩ fr cs st K) (hJ:st=true->∀v cs',K v cs'->∀w,Inv C.w0 C.S cs' w->cells St.l0 w) (hd:Nat.blt d C.N=true) (h:∀v cs',K v cs'->WS C St ops Q s ((d,v)::fr) cs'):WSI C St ops Q i s fr cs:=λfuel listed h1 h2 h3 h4=>
 zu hi hst hg hg1 ht hJ hd λv cs' hk=>h v cs' hk fuel _ h1 h2 h3 h4
theorem Rz(hi:ops[i]? =some ⟨some d,op,ty,pos,af,none⟩)(hy:UL C ⟨some d,op,ty,pos,af,none⟩ fr true V v)(hV:∀w,Inv C.w0 C.S cs w->V w)(hd:Nat.blt d C.N=true)
  (h:WS C St ops Q s ((d,v)::fr) cs):WSI C St ops Q i s fr cs:=λfuel listed h1 h2 h3 h4=>vQ hi hy hV hd (h fuel _ h1 h2 h3 h4)
theorem xC{F:Prop}(hf:∀w,Inv C.w0 C.S cs w->F)(h:F->WS C St ops Q s fr cs):WS C St ops Q s fr cs:=λfuel listed h1 h2 h3 h4 a w hfr hi=>h (hf w hi) fuel listed h1 h2 h3 h4 a w hfr hi
end
section
section
variable{C:Cx}{Q:kW}{fr:Fr}{cs cs':List bH}{ops:Array Oper}{x y:Code}{rest:List Oper}{fn:Func}{K:Value->List bH->Prop}{v:Value}{d:Nat}{f:FuncId}{ty:TypeId}{pos:String}{af:Array Edge}{i fuel:Nat}{listed:Array Bool}{St:Dr}{s:List (Nat×Nat)}{l:List Operand}{vs:List Value}{ats:Array TypeId}
theorem ZJ{st:Bool}{L:List (Addr×Value)}(hl:L=[]:=by exact I):st=true->∀v cs',K v cs'->∀w,Inv C.w0 C.S cs' w->cells L w:=by
 subst hl
 intro _ _ _ _ _ _ _ h
 cases h
theorem ZW{o:Operand}{b:Bool}(ht:b=true->WC C x Q fr cs)(hf:b=false->WC C y Q fr cs)(hc:ev fr o=some (.bool b):=by exact I):WC C (.cond o x y) Q fr cs:=Cj b hc ht hf
variable{t:Nat}
theorem VW(hk:K v [])(h0:fn.results= #[.tmp t]:=by exact I)(h1:look fr t=some v:=by exact I):Vh C (bodyPost C.P fn (zn C.w0 C.S K)) .ret fr cs:=IH (.inl I) (List.nil_sublist _) h0 h1 hk
theorem Vd(cs':List bH)(hk:K v cs')(hs:cs'.Sublist cs:=by exact Zu)(h0:fn.results= #[.tmp t]:=by exact I)(h1:look fr t=some v:=by exact I):Vh C (bodyPost C.P fn (zn C.w0 C.S K)) .ret fr cs:=IH (.inl I) hs h0 h1 hk
theorem V7(cin:List bH){rs:List bH}(hc:∀w,Inv C.w0 C.S cs w->Inv w (bK cin) cin w->Uz C.P f vs w cin K)(h:∀v cs',(∃cout,K v cout/\cs'=cout++rs)->WL C ops Q rest ((d,v)::fr) cs')(hl:evs fr l=some vs:=by exact I)(hf:∀args w,(callFunc f args).run C.P w= .ok (.enter f args) w:=by exact λ_ _=>I)(hp:ga cin cs rs:=by exact Zi)(hd:Nat.blt d C.N=true:=by exact I):
  WL C ops Q (⟨some d,.call {callee:= .value (.func f),args:=l.toArray,argTypes:=ats},ty,pos,af,none⟩::rest) fr cs:=gJ (eE cin hl hf hp hc) hd h
theorem ZcA(cin:List bH){rs:List bH}(hc:∀w,Inv C.w0 C.S cs w->Inv w (bK cin) cin w->Uz C.P f vs w cin K)(h:∀v cs',(∃cout,K v cout/\cs'=cout++rs)->WA C St ops Q fuel (listed.setIfInBounds i true) ((d,v)::fr) cs')(hi:ops[i]? =some ⟨some d,.call {callee:= .value (.func f),args:=l.toArray,argTypes:=ats},ty,pos,af,none⟩:=by exact I)(hst:St.st i=true:=by exact I)(hl0:St.l0=[]:=by exact I)(hl:evs fr l=some vs:=by exact I)(hf:∀args w,(callFunc f args).run C.P w= .ok (.enter f args) w:=by exact λ_ _=>I)(hp:ga cin cs rs:=by exact Zi)(hd:Nat.blt d C.N=true:=by exact I):
  WI C St ops Q fuel listed i fr cs:=jX hi hst (eE cin hl hf hp hc) (ZJ hl0) hd h
theorem ZcS(cin:List bH){rs:List bH}(hc:∀w,Inv C.w0 C.S cs w->Inv w (bK cin) cin w->Uz C.P f vs w cin K)(h:∀v cs',(∃cout,K v cout/\cs'=cout++rs)->WS C St ops Q s ((d,v)::fr) cs')(hi:ops[i]? =some ⟨some d,.call {callee:= .value (.func f),args:=l.toArray,argTypes:=ats},ty,pos,af,none⟩:=by exact I)(hst:St.st i=true:=by exact I)(hl0:St.l0=[]:=by exact I)(hl:evs fr l=some vs:=by exact I)(hf:∀args w,(callFunc f args).run C.P w= .ok (.enter f args) w:=by exact λ_ _=>I)(hp:ga cin cs rs:=by exact Zi)(hd:Nat.blt d C.N=true:=by exact I):
  WSI C St ops Q i s fr cs:=lv hi hst (eE cin hl hf hp hc) (ZJ hl0) hd h
theorem ne{x:Operand}{u:Value}{g:Bool}(h:ev fr x=some u:=by exact I):Ev fr g x u:=oX h
variable{k n:Nat}
theorem Zfo{P:Program}{T:Nat}(h:ii P T k=some n:=by first|exact(rfl:_=some 0)|exact(rfl:_=some 1)|exact(rfl:_=some 2)|exact(rfl:_=some 3)|exact(rfl:_=some 4)|exact(rfl:_=some 5)|exact(rfl:_=some 6)|exact(rfl:_=some 7)|exact(rfl:_=some 8)|exact(rfl:_=some 9)|exact(rfl:_=some 10)|exact(rfl:_=some 11)|exact(rfl:_=some 12)|exact(rfl:_=some 13)|exact(rfl:_=some 14)|exact(rfl:_=some 15)|exact(rfl:_=some 16)|exact(rfl:_=some 17)|exact(rfl:_=some 18)|exact(rfl:_=some 19)|exact(rfl:_=some 20)|exact(rfl:_=some 21)):ii P T k=some n:=h
variable{T:TypeId}{bb r o:Nat}
theorem ZFc{x:Operand}(h:WL C ops Q rest ((d,.pointer (some ⟨bb,r,none⟩))::fr) cs)(ho:ii C.P T k=some n:=by exact Zfo)(hx:Ev fr true x (.pointer (some ⟨bb,o,none⟩)):=by exact Vv)(hr:o+n=r:=by exact Zf)(hd:Nat.blt d C.N=true:=by exact I):
  WL C ops Q (⟨some d,.fieldAddr T x k,ty,pos,af,none⟩::rest) fr cs:=dW (dq n ho hx hr) (λ_ _=>trivial) hd h
theorem ZFd{x:Operand}{g:Bool}{j:Nat×Bool}(h:WL C ops Q rest ((d,bif g then .pointer (some ⟨bb,r,none⟩)else undef)::fr) cs)(hg:bM ops fr ⟨some d,.fieldAddr T x k,ty,pos,af,some j⟩ g:=by exact Zgd)(ho:ii C.P T k=some n:=by exact Zfo)(hx:Ev fr g x (.pointer (some ⟨bb,o,none⟩)):=by exact Vv)(hr:o+n=r:=by exact Zf)(hd:Nat.blt d C.N=true:=by exact I):
  WL C ops Q (⟨some d,.fieldAddr T x k,ty,pos,af,some j⟩::rest) fr cs:=i5 hg (dq n ho hx hr) (λ_ _=>trivial) hd h
theorem ZlR{x:Operand}{xs:List Value}(h:WL C ops Q rest ((d,.agg xs.toArray)::fr) cs)(hx:Ev fr true x (.p bb):=by exact Vv)(hc:UQ cs (row bb xs t):=by exact Zh)(hT:∀w,(isAgg T).run C.P w= .ok true w:=by exact λ_=>I)(hs:∀w,(sizeOf T).run C.P w= .ok (J xs) w:=by exact λ_=>I)(hd:Nat.blt d C.N=true:=by exact I):
  WL C ops Q (⟨some d,.load T x,ty,pos,af,none⟩::rest) fr cs:=Ge hc hT hs hx hd h
theorem UD{X:Value}(hc:∀w,Inv C.w0 C.S cs w->Uz C.P f vs w [] (λv cs=>v=X/\cs=[]))(h:WL C ops Q rest ((d,X)::fr) cs)(hl:evs fr l=some vs:=by exact I)(hf:∀args w,(callFunc f args).run C.P w= .ok (.enter f args) w:=by exact λ_ _=>I)(hd:Nat.blt d C.N=true:=by exact I):
  WL C ops Q (⟨some d,.call {callee:= .value (.func f),args:=l.toArray,argTypes:=ats},ty,pos,af,none⟩::rest) fr cs:=ZS hc (λv cs' ⟨news,⟨h1,h2⟩,h3⟩=>by subst h1 h2;rw[ax]at h3;subst h3;exact h) hl hf hd
theorem U5{X:Value}(cin:List bH){rs Y:List bH}(hc:∀w,Inv C.w0 C.S cs w->Inv w (bK cin) cin w->Uz C.P f vs w cin (λv cs=>v=X/\cs=Y))(h:WL C ops Q rest ((d,X)::fr) (Y++rs))(hl:evs fr l=some vs:=by exact I)(hf:∀args w,(callFunc f args).run C.P w= .ok (.enter f args) w:=by exact λ_ _=>I)(hp:ga cin cs rs:=by exact Zi)(hd:Nat.blt d C.N=true:=by exact I):
  WL C ops Q (⟨some d,.call {callee:= .value (.func f),args:=l.toArray,argTypes:=ats},ty,pos,af,none⟩::rest) fr cs:=V7 cin hc (λv cs' ⟨co,⟨h1,h2⟩,h3⟩=>by subst h1 h2 h3;exact h) hl hf hp hd
end
variable{P Q:Prop}
theorem V2(h:Q)(f:Q->P:=by first
 |with_reducible exact λh=>Zs h|with_reducible exact λh=>Zr h|with_reducible exact λh=>Zn h|with_reducible exact λh=>Zt h|with_reducible exact λh=>Zc h|with_reducible exact λh=>Zo h|with_reducible exact λh=>Zx h|with_reducible exact λh=>Ze h|with_reducible exact λh=>Zw h|with_reducible exact λh=>Zq h|with_reducible exact λh=>Δ h|with_reducible exact λh=>CZ h
 |exact λh=>ZA h|exact λh=>ZFc h|exact λh=>ZC h|exact λh=>ZlR h|exact λh=>ZB h|exact λh=>ZD h|exact λh=>ZFd h
 |exact λh=>AC I h|exact λh=>yl I h):P:=f h
theorem py(h:Q)(f:Q->P:=by intro h;(iterate 2 refine V2 ?_);exact h):P:=f h
theorem Us(h:Q)(f:Q->P:=by intro h;(iterate 3 refine V2 ?_);exact h):P:=f h
theorem Ut(h:Q)(f:Q->P:=by intro h;(iterate 4 refine V2 ?_);exact h):P:=f h
theorem Uu(h:Q)(f:Q->P:=by intro h;(iterate 5 refine V2 ?_);exact h):P:=f h
theorem UA(h:Q)(f:Q->P:=by intro h;(iterate 6 refine V2 ?_);exact h):P:=f h
theorem Ux(h:Q)(f:Q->P:=by intro h;(iterate 7 refine V2 ?_);exact h):P:=f h
theorem UG(h:Q)(f:Q->P:=by intro h;(iterate 8 refine V2 ?_);exact h):P:=f h
theorem UE(h:Q)(f:Q->P:=by intro h;(iterate 9 refine V2 ?_);exact h):P:=f h
theorem eK(h:Q)(f:Q->P:=by intro h;(iterate 10 refine V2 ?_);exact h):P:=f h
theorem gX(h:Q)(f:Q->P:=by intro h;(iterate 11 refine V2 ?_);exact h):P:=f h
theorem fo(h:Q)(f:Q->P:=by intro h;(iterate 12 refine V2 ?_);exact h):P:=f h
theorem iR(h:Q)(f:Q->P:=by intro h;(iterate 13 refine V2 ?_);exact h):P:=f h
theorem jG(h:Q)(f:Q->P:=by intro h;(iterate 14 refine V2 ?_);exact h):P:=f h
theorem oQ(h:Q)(f:Q->P:=by intro h;(iterate 15 refine V2 ?_);exact h):P:=f h
theorem mU(h:Q)(f:Q->P:=by intro h;(iterate 16 refine V2 ?_);exact h):P:=f h
theorem vY(h:Q)(f:Q->P:=by intro h;(iterate 17 refine V2 ?_);exact h):P:=f h
theorem xt(h:Q)(f:Q->P:=by intro h;(iterate 18 refine V2 ?_);exact h):P:=f h
theorem IK(h:Q)(f:Q->P:=by intro h;(iterate 19 refine V2 ?_);exact h):P:=f h
theorem jF(h:Q)(f:Q->P:=by intro h;(iterate 20 refine V2 ?_);exact h):P:=f h
end
section
variable{C:Cx}{Q:kW}{fr:Fr}{cs:List bH}{ops:Array Oper}{x y:Code}{rest:List Oper}{K:Value->List bH->Prop}{v:Value}{d:Nat}{f:FuncId}{ty:TypeId}{pos:String}{af:Array Edge}{i fuel:Nat}{listed:Array Bool}{St:Dr}{s:List (Nat×Nat)}{l:List Operand}{vs:List Value}{ats:Array TypeId}{op:Op}{gd:Option (Nat×Bool)}{g:Bool}
variable{args:List Value}{w:World}
theorem UH{P:Program}{fn:Func}{c:Code}{N:Nat}{cin:List bH}(hf:P.funcs[f]? =some fn)(hn:fn.ntmps=N)(hi:Inv w (bK cin) cin w)(h:WC ⟨P,N,w,bK cin⟩ c (bodyPost P fn (zn w (bK cin) K)) (uR 0 args) cin)(hb:fn.body=some c:=by exact I)(hl:Nat.ble (J args) N=true:=by exact I):Uz P f args w cin K:=wZ hf hb hn hl hi h
theorem UB{P:Program}{fn:Func}{c:Code}{N:Nat}(hf:P.funcs[f]? =some fn)(hn:fn.ntmps=N)(h:WC ⟨P,N,w,bK []⟩ c (bodyPost P fn (zn w (bK []) K)) (uR 0 args) [])(hb:fn.body=some c:=by exact I)(hl:Nat.ble (J args) N=true:=by exact I):Uz P f args w [] K:=wZ hf hb hn hl (Inv.start w) h
theorem UF(i:Nat)(hi:ops[i]? =some ⟨some d,op,ty,pos,af,none⟩)(hy:UL C ⟨some d,op,ty,pos,af,none⟩ fr true U4 v)(h:WA C St ops Q fuel (listed.setIfInBounds i true) ((d,v)::fr) cs)(hs:Region.noSelect ops=true:=by exact Zk)(hfree:Region.free .any ops listed i=true:=by exact Zk)(hr:(Region.ready .any ops listed).contains i=true:=by exact Zk)(hd:Nat.blt d C.N=true:=by exact I):WA C St ops Q (fuel+1) listed fr cs:=gC i hi hs hfree hr hy hd h
theorem US(i:Nat){l:List (Addr×Value)}(hi:ops[i]? =some ⟨some d,op,ty,pos,af,none⟩)(hy:UL C ⟨some d,op,ty,pos,af,none⟩ fr true (cells l) v)(hV:∀w,Inv C.w0 C.S cs w->cells l w)(h:WA C St ops Q fuel (listed.setIfInBounds i true) ((d,v)::fr) cs)(hs:Region.noSelect ops=true:=by exact Zk)(hfree:Region.free .any ops listed i=true:=by exact Zk)(hst:oS .any ops St.st listed i=true:=by exact Zk)(hr:(Region.ready .any ops listed).contains i=true:=by exact Zk)(hd:Nat.blt d C.N=true:=by exact I):WA C St ops Q (fuel+1) listed fr cs:=sx i hi hs hfree hst hr hy hV hd h
theorem Zy6(i:Nat)(hi:ops[i]? =some ⟨some d,op,ty,pos,af,gd⟩)(hg:bM ops fr ⟨some d,op,ty,pos,af,gd⟩ g)(hy:UL C ⟨some d,op,ty,pos,af,gd⟩ fr g U4 v)(h:WA C St ops Q fuel (listed.setIfInBounds i true) ((d,bif g then v else undef)::fr) cs)(hs:Region.noSelect ops=true:=by exact Zk)(hfree:Region.free .any ops listed i=true:=by exact Zk)(hr:(Region.ready .any ops listed).contains i=true:=by exact Zk)(hd:Nat.blt d C.N=true:=by exact I):WA C St ops Q (fuel+1) listed fr cs:=Ε i hi hs hfree hr hg hy hd h
theorem Yq(i:Nat){l:List (Addr×Value)}(hi:ops[i]? =some ⟨some d,op,ty,pos,af,gd⟩)(hg:bM ops fr ⟨some d,op,ty,pos,af,gd⟩ g)(hy:UL C ⟨some d,op,ty,pos,af,gd⟩ fr g (cells l) v)(hV:∀w,Inv C.w0 C.S cs w->cells l w)(h:WA C St ops Q fuel (listed.setIfInBounds i true) ((d,bif g then v else undef)::fr) cs)(hs:Region.noSelect ops=true:=by exact Zk)(hfree:Region.free .any ops listed i=true:=by exact Zk)(hst:oS .any ops St.st listed i=true:=by exact Zk)(hr:(Region.ready .any ops listed).contains i=true:=by exact Zk)(hd:Nat.blt d C.N=true:=by exact I):WA C St ops Q (fuel+1) listed fr cs:=Η i hi hs hfree hst hr hg hy hV hd h
theorem UW(hc:∀w,Inv C.w0 C.S cs w->Uz C.P f vs w [] K)(h:∀v n,K v n->WL C ops Q rest ((d,v)::fr) (cs++n))(hl:evs fr l=some vs:=by exact I)(hf:∀args w,(callFunc f args).run C.P w=.ok (.enter f args) w:=by exact λ_ _=>I)(hd:Nat.blt d C.N=true:=by exact I):WL C ops Q (⟨some d,.call {callee:=.value (.func f),args:=l.toArray,argTypes:=ats},ty,pos,af,none⟩::rest) fr cs:=ZS hc (λv _ ⟨n,k,e⟩=>e▸h v n k) hl hf hd
theorem VF(hc:∀w,Inv C.w0 C.S cs w->Uz C.P f vs w [] K)(h:∀v n,K v n->WA C St ops Q fuel (listed.setIfInBounds i true) ((d,v)::fr) (cs++n))(hi:ops[i]? =some ⟨some d,.call {callee:=.value (.func f),args:=l.toArray,argTypes:=ats},ty,pos,af,none⟩:=by exact I)(hst:St.st i=false:=by exact I)(hl:evs fr l=some vs:=by exact I)(hf:∀args w,(callFunc f args).run C.P w=.ok (.enter f args) w:=by exact λ_ _=>I)(hd:Nat.blt d C.N=true:=by exact I):WI C St ops Q fuel listed i fr cs:=ZT hc (λv _ ⟨n,k,e⟩=>e▸h v n k) hi hst hl hf hd
theorem dE(cin:List bH){rs:List bH}(hc:∀w,Inv C.w0 C.S cs w->Inv w (bK cin) cin w->Uz C.P f vs w cin K)(h:∀v n,K v n->WL C ops Q rest ((d,v)::fr) (n++rs))(hl:evs fr l=some vs:=by exact I)(hf:∀args w,(callFunc f args).run C.P w=.ok (.enter f args) w:=by exact λ_ _=>I)(hp:ga cin cs rs:=by exact Zi)(hd:Nat.blt d C.N=true:=by exact I):WL C ops Q (⟨some d,.call {callee:=.value (.func f),args:=l.toArray,argTypes:=ats},ty,pos,af,none⟩::rest) fr cs:=V7 cin hc (λv _ ⟨n,k,e⟩=>e▸h v n k) hl hf hp hd
theorem rH(cin:List bH){rs:List bH}(hc:∀w,Inv C.w0 C.S cs w->Inv w (bK cin) cin w->Uz C.P f vs w cin K)(h:∀v n,K v n->WA C St ops Q fuel (listed.setIfInBounds i true) ((d,v)::fr) (n++rs))(hi:ops[i]? =some ⟨some d,.call {callee:=.value (.func f),args:=l.toArray,argTypes:=ats},ty,pos,af,none⟩:=by exact I)(hst:St.st i=true:=by exact I)(hl0:St.l0=[]:=by exact I)(hl:evs fr l=some vs:=by exact I)(hf:∀args w,(callFunc f args).run C.P w=.ok (.enter f args) w:=by exact λ_ _=>I)(hp:ga cin cs rs:=by exact Zi)(hd:Nat.blt d C.N=true:=by exact I):WI C St ops Q fuel listed i fr cs:=ZcA cin hc (λv _ ⟨n,k,e⟩=>e▸h v n k) hi hst hl0 hl hf hp hd
theorem ZcSn(cin:List bH){rs:List bH}(hc:∀w,Inv C.w0 C.S cs w->Inv w (bK cin) cin w->Uz C.P f vs w cin K)(h:∀v n,K v n->WS C St ops Q s ((d,v)::fr) (n++rs))(hi:ops[i]? =some ⟨some d,.call {callee:=.value (.func f),args:=l.toArray,argTypes:=ats},ty,pos,af,none⟩:=by exact I)(hst:St.st i=true:=by exact I)(hl0:St.l0=[]:=by exact I)(hl:evs fr l=some vs:=by exact I)(hf:∀args w,(callFunc f args).run C.P w=.ok (.enter f args) w:=by exact λ_ _=>I)(hp:ga cin cs rs:=by exact Zi)(hd:Nat.blt d C.N=true:=by exact I):WSI C St ops Q i s fr cs:=ZcS cin hc (λv _ ⟨n,k,e⟩=>e▸h v n k) hi hst hl0 hl hf hp hd
variable{P:Prop}{o:Operand}{b:Bool}
theorem Vs(ht:b=true->WC C x Q fr cs)(hf:b=false->WC C y Q fr cs)(f:Uj (WC C (.cond o x y) Q fr cs)->P:=by intro y9;exact Us y9.1)(hc:ev fr o=some (.bool b):=by exact I):P:=f ⟨ZW ht hf hc⟩
theorem Wj(ht:b=true->WC C x Q fr cs)(hf:b=false->WC C y Q fr cs)(f:Uj (WC C (.cond o x y) Q fr cs)->P:=by intro y9;exact Ut y9.1)(hc:ev fr o=some (.bool b):=by exact I):P:=f ⟨ZW ht hf hc⟩
theorem VQ(ht:b=true->WC C x Q fr cs)(hf:b=false->WC C y Q fr cs)(f:Uj (WC C (.cond o x y) Q fr cs)->P:=by intro y9;exact Uu y9.1)(hc:ev fr o=some (.bool b):=by exact I):P:=f ⟨ZW ht hf hc⟩
theorem Ul(ht:b=true->WC C x Q fr cs)(hf:b=false->WC C y Q fr cs)(f:Uj (WC C (.cond o x y) Q fr cs)->P:=by intro y9;exact UA y9.1)(hc:ev fr o=some (.bool b):=by exact I):P:=f ⟨ZW ht hf hc⟩
theorem Vl(ht:b=true->WC C x Q fr cs)(hf:b=false->WC C y Q fr cs)(f:Uj (WC C (.cond o x y) Q fr cs)->P:=by intro y9;exact Ux y9.1)(hc:ev fr o=some (.bool b):=by exact I):P:=f ⟨ZW ht hf hc⟩
theorem V1(ht:b=true->WC C x Q fr cs)(hf:b=false->WC C y Q fr cs)(f:Uj (WC C (.cond o x y) Q fr cs)->P:=by intro y9;exact UG y9.1)(hc:ev fr o=some (.bool b):=by exact I):P:=f ⟨ZW ht hf hc⟩
theorem VM(ht:b=true->WC C x Q fr cs)(hf:b=false->WC C y Q fr cs)(f:Uj (WC C (.cond o x y) Q fr cs)->P:=by intro y9;exact UE y9.1)(hc:ev fr o=some (.bool b):=by exact I):P:=f ⟨ZW ht hf hc⟩
theorem oI(ht:b=true->WC C x Q fr cs)(hf:b=false->WC C y Q fr cs)(f:Uj (WC C (.cond o x y) Q fr cs)->P:=by intro y9;exact eK y9.1)(hc:ev fr o=some (.bool b):=by exact I):P:=f ⟨ZW ht hf hc⟩
theorem yZ(ht:b=true->WC C x Q fr cs)(hf:b=false->WC C y Q fr cs)(f:Uj (WC C (.cond o x y) Q fr cs)->P:=by intro y9;exact gX y9.1)(hc:ev fr o=some (.bool b):=by exact I):P:=f ⟨ZW ht hf hc⟩
theorem tH(ht:b=true->WC C x Q fr cs)(hf:b=false->WC C y Q fr cs)(f:Uj (WC C (.cond o x y) Q fr cs)->P:=by intro y9;exact jG y9.1)(hc:ev fr o=some (.bool b):=by exact I):P:=f ⟨ZW ht hf hc⟩
end
abbrev CW(P:Program)(f:FuncId)(a:List Value)(w:World)(y:Value):Prop:=Uz P f a w [] (λv cs=>v=y/\cs=[])
abbrev CI(P:Program)(f:FuncId)(a:List Value)(X:List bH)(K:Value->List bH->Prop):Prop:=∀w,Inv w (bK X) X w->Uz P f a w X K
abbrev CV(P:Program)(f:FuncId)(a:List Value)(X:List bH)(y:Value):Prop:=∀w,Inv w (bK X) X w->Uz P f a w X (λv cs=>v=y/\cs=X)
section
variable{C:Cx}{Q:kW}{fr:Fr}{cs:List bH}{c:Code}
variable{σ:Type}{F:σ->Fr}{G:σ->List bH}{ok:σ->Prop}
theorem UN(s:σ)(ho:ok s)(hf:Wk fr (F s):=by exact XK)(hg:zh (G s) cs:=by exact Zj):Vh C (Exit.then (Mid C F G ok) Q) .normal fr cs:=r8 s ho hf hg
theorem Vo(s:σ)(ho:ok s)(hf:Wk fr (F s):=by exact XK)(hg:(G s).Sublist cs:=by exact Zu):Vh C (Exit.then (Mid C F G ok) Q) .normal fr cs:=q_mid s ho hf hg
theorem UX(F:σ->Fr)(G:σ->List bH)(ok:σ->Prop)(μ:σ->Nat)(s0:σ)(h0:ok s0)(round:∀s,ok s->WC C c (Exit.then (Mid C F G λs'=>ok s'/\μ s'<μ s) Q) (F s) (G s))(hf:Wk fr (F s0):=by exact XK)(hg:(G s0).Sublist cs:=by exact Zu):WC C (.loop c) Q fr cs:=xF F G ok μ s0 h0 hf hg round
theorem Ur(k:bH)(h:UQ cs k:=by exact Zh):UQ cs k:=h
abbrev Wz(l:List Nat)(k:List (Addr×Value)):Dr:=⟨λj=>List.elem j l,k⟩
abbrev UK(l:List Nat):Dr:=⟨λj=>List.elem j l,[]⟩
end
def St.new:St:={St.zero with Sy:=true}
def St.SL(s:St)(SB addr:Int):St:=
 {s with epc:=s.pc,SB:=V9 .u32 SB,addr:=addr,SO:=s.Sy,eie:=s.ie,Sy:=true,ie:=false,pc:=s.vec}
def St.back(s:St):St:={s with pc:=s.epc,Sy:=s.SO,ie:=s.eie}
def St.get(s:St)(reg:Int):Int×Bool:=
 bif reg==0 then(Va s.ie,true)else bif reg==1 then(Va s.SJ,true)else bif reg==2 then(s.root,true)else bif reg==3 then(s.vec,true)else bif reg==4 then(s.epc,true)else
 bif reg==5 then(s.SB,true)else bif reg==6 then(s.addr,true)else bif reg==7 then(Va s.SO,true)else bif reg==8 then(Va s.eie,true)else bif reg==9 then(V9 .u32 s.count,true)else
 bif reg==10 then(s.flags,true)else(0,false)
def St.same(a b:St):Bool:=
 (((a.d==b.d)&&(a.r==b.r))&&((((((((a.pc==b.pc)&&(a.flags==b.flags))&&(a.Sy==b.Sy))&&(a.SJ==b.SJ))&&(a.ie==b.ie))&&(a.root==b.root))&&(a.vec==b.vec)))&&(((((a.epc==b.epc)&&(a.SB==b.SB))&&(a.addr==b.addr))&&(a.SO==b.SO))&&(a.eie==b.eie)))&&(a.count==b.count)&&(a.halted==b.halted)
def St.right(s:St):Bool:=decide ((J s.d:Int)<=16)&&decide ((J s.r:Int)<=16)&&decide (s.flags<=15)
structure St.wf(s:St):Prop where
 pc:u32 s.pc
 flags:u32 s.flags
 root:u32 s.root
 vec:u32 s.vec
 epc:u32 s.epc
 SB:u32 s.SB
 addr:u32 s.addr
 count:0<=s.count/\s.count<=18446744073709551615
 d:∀x,x∈s.d->u32 x
 r:∀x,x∈s.r->u32 x
section
attribute [local irreducible] UL bM
theorem Kp(b:Bool)(w:World):CW prog 315 [.bool b] w (.w (Va b)):=by
 refine UB func315 ntmps315 ?_;refine yZ ?_ ?_<;>intro hc1
 .subst hc1;refine Ux ?_;exact vB
 subst hc1;refine fC ?_;exact ff
theorem lL(n lo hi:Int)(w:World)(h0:0<=lo)(h1:lo<=hi)(h2:hi<=1000000000000):CW prog 12 [.i n,.i lo,.i hi] w (.i (gi n lo hi)):=by
 obtain⟨m,hm⟩:∃m,m=hi - lo+1:=⟨_,I⟩;obtain⟨t,ht⟩:∃t,t=n.tmod m:=⟨_,I⟩;have e1:t<m:=by rw[ht];exact Int.tmod_lt_of_pos _ O
 have e2: - m<t:=by
  have:=Int.tmod_lt_of_pos (-n) (b:=m) O;rw[Int.neg_tmod]at this;omega
 have e3:t%m=n%m:=by
  rw[ht,Int.tmod_eq_emod];split
  .simp
  rw[Int.natAbs_of_nonneg O];simp
 rw[hm]at ht e1 e2;refine Wq417 ?_;refine oI ?_ ?_<;>intro hc2
 .refine Us ?_;refine mT ?_;refine ZA ?_;refine rL ?_;refine mT ?_;refine Ux ?_;refine mT ?_;refine Ut ?_;refine VW ?_;simp only[ah]at hc2;refine⟨congrArg _ ?_,I⟩;unfold gi;rw[<-hm,<-e3];have e4:(t+m)%m=t%m:=by simp
  rw[<-e4,Int.emod_eq_of_lt O O];omega
 exact Wx38_
theorem FW(A:Oa)(n c:Nat)(xs:Li)(w:World)(h:Rd w .u32 A n c xs)(hn:n*4<=140737488355328):Uz prog 122 [.slice A n c] w [] (λv cs=>∃A' c',v= .slice A' n c'/\cs=[sl .u32 32 A' n c' xs]):=by
 refine UB func122 ntmps122 ?_;refine fo ?_;refine ZW ?_ ?_<;>intro hc1
 .obtain rfl:A=none:=by simpa using hc1
  obtain⟨rfl,rfl⟩:=h.nil I;obtain rfl:xs=[]:=by have:=h.len;simpa[ints]using this
  refine py ?_;refine dg 32 1 (Uu ?_);exact IN
 refine Ut ?_;refine jP ?_;rintro _ _ ⟨b5,rfl,rfl⟩;refine ZA ?_;refine gJ (cu (e:=32) (sz:=1) (bytes:=4) I I Za I I (λw hi=>h.SS hi) cP gI O) I ?_;rintro _ _ ⟨A',c',rfl,rfl⟩;simp only[bA,aJ];refine Ut ?_;exact IN
structure kS(w:World)(s:St)(Ad Ar:Oa)(cd cr:Nat):Prop where
 d:Rd w .u32 Ad (J s.d) cd s.d
 r:Rd w .u32 Ar (J s.r) cr s.r
 hd:J s.d*4<=140737488355328
 hr:J s.r*4<=140737488355328
theorem kS.SS{w0 w:World}{cs:List bH}{s:St}{Ad Ar:Oa}{cd cr:Nat}(h:kS w0 s Ad Ar cd cr)(hi:Inv w0 [] cs w):kS w s Ad Ar cd cr:=⟨h.d.SS hi,h.r.SS hi,h.hd,h.hr⟩
abbrev sv(s:St)(Ad:Oa)(cd:Nat)(Ar:Oa)(cr:Nat):Value:= .agg (s.cells (.slice Ad (J s.d) cd) (.slice Ar (J s.r) cr)).toArray
abbrev UP(s:St)(A:Oa)(c:Nat):bH:=sl .u32 32 A (J s.d) c s.d
abbrev UU(s:St)(A:Oa)(c:Nat):bH:=sl .u32 32 A (J s.r) c s.r
def D5(s:St)(v:Value)(cs:List bH):Prop:=∃Ad cd Ar cr,v=sv s Ad cd Ar cr/\cs=[UP s Ad cd,UU s Ar cr]
theorem _root_.Go.Ink.Inv.TM{w0 w:World}{S:List Nat}{cs:List bH}{s:St}{Ad Ar:Oa}{cd cr:Nat}(hi:Inv w0 S cs w)(h1:UQ cs (UP s Ad cd))(h2:UQ cs (UU s Ar cr))(hd:J s.d*4<=140737488355328)(hr:J s.r*4<=140737488355328):kS w s Ad Ar cd cr:=
 ⟨hi.rd h1,hi.rd h2,hd,hr⟩
theorem mH(s:St)(Ad Ar:Oa)(cd cr:Nat)(w:World)(h:kS w s Ad Ar cd cr):Uz prog 71 [sv s Ad cd Ar cr] w [] (D5 s):=by
 refine UB func71 ntmps71 ?_;refine py ?_;refine ZO λb1=>?_;refine ZN λb2=>?_
 refine Us ?_;refine bN (UK [7,9]) Zk (Ld 0 1 ?_);refine ZG 1 ?_;refine Ld 3 2 ?_;refine ZG 4 ?_;refine cQ 2 Zk (VF (λw hi=>FW Ad _ cd s.d w (h.d.SS hi) h.hd) ?_);rintro _ _ ⟨A1,c1,rfl,rfl⟩;refine Ld 6 1 ?_;refine cQ 5 Zk (VF (λw hi=>FW Ar _ cr s.r w (h.r.SS hi) h.hr) ?_);rintro _ _ ⟨A2,c2,rfl,rfl⟩;refine iW ?_;refine ZQ ?_;refine Ld 8 2 ?_;refine kO ?_;refine ke ?_;refine Ut ?_;exact Wq91
theorem tR(s:St)(Ad Ar:Oa)(cd cr:Nat)(SB addr:Int)(w:World)(h:kS w s Ad Ar cd cr):Uz prog 142 [sv s Ad cd Ar cr,.i SB,.w addr] w [] (D5 (s.SL SB addr)):=by
 refine UB func142 ntmps142 ?_;refine py ?_;refine ZO λb3=>?_;refine ZN λb6=>?_
 refine Uu ?_;refine UW (λw hi=>mH s Ad Ar cd cr w (h.SS hi)) ?_;exact Wx34_
theorem JK(s:St)(Ad Ar:Oa)(cd cr:Nat)(w:World)(h:kS w s Ad Ar cd cr):Uz prog 262 [sv s Ad cd Ar cr] w [] (D5 s.back):=by
 refine UB func262 ntmps262 ?_;refine py ?_;refine ZO λb1=>?_;refine ZN λb2=>?_
 refine Uu ?_;refine UW (λw hi=>mH s Ad Ar cd cr w (h.SS hi)) ?_;rintro _ _ ⟨A1,c1,A2,c2,rfl,rfl⟩;refine ZM ?_;refine gX ?_;exact QX
theorem T8(w:World):CW prog 90 [] w (sv St.new none 0 none 0):=by
 refine UB func90 ntmps90 ?_;refine py ?_;refine ZN λb0=>?_;refine Uu ?_;refine kQ ?_;exact D2
theorem R6(s:St)(dv rv:Value)(reg:Int)(w:World):CW prog 249 [.agg (s.cells dv rv).toArray,.i reg] w (.tuple #[.w (s.get reg).1,.bool (s.get reg).2]):=by
 refine UB func249 ntmps249 ?_;refine py ?_;refine ZO λb2=>?_;refine vY ?_;refine ZW ?_ ?_<;>intro hc2
 .exact Xx
 refine Ul ?_ ?_<;>intro hc4
 .exact Xx
 refine Ul ?_ ?_<;>intro hc6
 .exact WQ
 refine Ul ?_ ?_<;>intro hc8
 .exact WQ
 refine Ul ?_ ?_<;>intro hc10
 .exact WQ
 refine Ul ?_ ?_<;>intro hc12
 .exact WQ
 refine Ul ?_ ?_<;>intro hc14
 .exact WQ
 refine Ul ?_ ?_<;>intro hc16
 .exact Xx
 refine Ul ?_ ?_<;>intro hc18
 .exact Xx
 refine Ul ?_ ?_<;>intro hc20
 .refine Ut ?_;refine mL ?_;refine Ux ?_;refine pd ?_;refine⟨?_,I⟩;exact sV
 refine Ul ?_ ?_<;>intro hc22
 .exact WQ
 refine eK ?_;refine pd ?_;refine⟨?_,I⟩;exact sV
theorem RI(s:St)(Ad Ar:Oa)(cd cr:Nat)(reg v:Int)(w:World)(h:kS w s Ad Ar cd cr):Uz prog 250 [sv s Ad cd Ar cr,.i reg,.w v] w []
  (λx cs=>∃Ad' cd' Ar' cr',x= .tuple #[sv (s.set reg v).1 Ad' cd' Ar' cr',.bool (s.set reg v).2]/\cs=[UP s Ad' cd',UU s Ar' cr']):=by
 refine UB func250 ntmps250 ?_;refine py ?_;refine ZO λb3=>?_;refine ZN λb6=>?_
 refine UA ?_;refine UW (λw hi=>mH s Ad Ar cd cr w (h.SS hi)) ?_;rintro _ _ ⟨A1,c1,A2,c2,rfl,rfl⟩;refine ZM ?_;refine oQ ?_;refine ZW ?_ ?_<;>intro hc4
 .exact V3
 refine Ul ?_ ?_<;>intro hc6
 .exact V3
 refine Ul ?_ ?_<;>intro hc8
 .refine py ?_;refine Zy (sZ ne ne I) ?_;refine V2 ?_;exact Yw
 refine Ul ?_ ?_<;>intro hc10
 .exact Wc
 refine Ul ?_ ?_<;>intro hc12
 .exact Wc
 refine Ul ?_ ?_<;>intro hc14
 .exact Wc
 refine Ul ?_ ?_<;>intro hc16
 .exact Wc
 refine Ul ?_ ?_<;>intro hc18
 .exact V3
 refine Ul ?_ ?_<;>intro hc20
 .exact V3
 refine Ul ?_ ?_<;>intro hc22
 .exact V3
 exact Wx40_
theorem oe(s:St)(Ad Ar:Oa)(cd cr:Nat)(w:World):CW prog 125 [sv s Ad cd Ar cr] w (.bool s.right):=by
 refine UB func125 ntmps125 ?_;refine py ?_;refine ZO λb1=>?_;refine jF ?_;exact oR
theorem oo(s:St)(Ad Ar:Oa)(cd cr:Nat)(w:World)(h:kS w s Ad Ar cd cr):Uz prog 98 [sv s Ad cd Ar cr] w [] (D5 s):=by
 have hd:=h.hd;have hr:=h.hr;refine UB func98 ntmps98 ?_;refine py ?_;refine ZO λb1=>?_;refine ZN λb2=>?_
 refine Ut ?_;refine jP ?_;rintro _ _ ⟨b3,rfl,rfl⟩;refine py ?_;refine gJ (cu (e:=32) (sz:=1) (bytes:=4) I I Za I I (λw hi=>h.d.SS hi) cP gI O) I ?_;rintro _ _ ⟨A1,c1,rfl,rfl⟩;simp only[bA,aJ];refine mR ?_;refine Ut ?_;refine jP ?_;rintro _ _ ⟨b8,rfl,rfl⟩;refine py ?_;refine gJ (cu (e:=32) (sz:=1) (bytes:=4) I I Za I I (λw hi=>h.r.SS hi) cP gI O) I ?_;rintro _ _ ⟨A2,c2,rfl,rfl⟩;simp only[bA,aJ];refine mR ?_;refine Uu ?_;refine kQ ?_;exact mz (cs':=[slv _ _ _ _ _ _,slv _ _ _ _ _ _]) (.inl I) Zu I I Zh ir ir ⟨A1,c1,A2,c2,I,I⟩
theorem and15(v:Int)(h:u32 v):bits .and .u32 v 15=v%16:=by
 obtain⟨h0,h1⟩:=h;obtain⟨n,rfl⟩:=ai h0;have e1:(BitVec.ofInt 32 (n:Int)).toNat=n:=by rw[BitVec.ofInt_natCast,BitVec.toNat_ofNat];exact BS
 have e2:n&&&15=n%16:=Nat.and_two_pow_sub_one_eq_mod n 4;show V9 .u32 (((BitVec.ofInt 32 (n:Int))&&&(BitVec.ofInt 32 15)).toNat:Int)=_
 grind [IntKind.wrap_u32]
theorem Qu(v:Int)(h:u32 v):bits .andNot .u32 v 63=V9 .u32 (v - v%64):=by
 obtain⟨h0,h1⟩:=h;obtain⟨n,rfl⟩:=ai h0;have e1:(BitVec.ofInt 32 (n:Int)).toNat=n:=by rw[BitVec.ofInt_natCast,BitVec.toNat_ofNat];exact BS
 show V9 .u32 (((BitVec.ofInt 32 (n:Int))&&& ~~~ (BitVec.ofInt 32 63)).toNat:Int)=_
 grind [and63]
theorem St.TP{x:Int}(h:0<=x/\x<=10):x=0\/x=1\/x=2\/x=3\/x=4\/x=5\/x=6\/x=7\/x=8\/x=9\/x=10:=by omega
theorem St.Uf(s:St){x:Int}(h:0<=x/\x<=10):(s.get x).2=true:=by
 rcases St.TP h with rfl|rfl|rfl|rfl|rfl|rfl|rfl|rfl|rfl|rfl|rfl<;>rfl
theorem St.get_none(s:St){x:Int}(h:x<0\/10<x):(s.get x).2=false:=by
 unfold St.get;have e:∀k:Int,0<=k->k<=10->(x==k)=false:=λk _ _=>by grind
 exact Wq387
theorem St.regs_at(s:St){reg:Int}(h:0<=reg/\reg<=10):s.Tb[reg.toNat]? =some (s.get reg).1:=by
 rcases St.TP h with rfl|rfl|rfl|rfl|rfl|rfl|rfl|rfl|rfl|rfl|rfl<;>rfl
theorem St.right_lt(s:St):((decide ((J s.d:Int)<=16)&&decide ((J s.r:Int)<=16))&&decide (s.flags<16))=s.right:=by
 grind [St.right]
theorem mul64(v:Int)(h:u32 v):V9 .u32 (V9 .u32 (v.tdiv 64)*64)=bits .andNot .u32 v 63:=by
 obtain⟨h0,h1⟩:=h;rw[Qu v ⟨h0,h1⟩]
 grind [IntKind.wrap_u32]
theorem St.Uh(s:St){x:Int}(h:x<0\/10<x):(s.get x).1=0:=by
 unfold St.get;have e:∀k:Int,0<=k->k<=10->(x==k)=false:=λk _ _=>by grind
 exact Wq387
theorem rem16(v:Int)(h:u32 v):v.tmod 16=bits .and .u32 v 15:=by
 rw[and15 v h,aw h.1]
theorem CD(s:St)(Ad Ar:Oa)(cd cr:Nat)(w:World):CW prog 164 [sv s Ad cd Ar cr] w (.bool s.right):=by
 refine UB func164 ntmps164 ?_;refine py ?_;refine ZO λb1=>?_;refine jF ?_;refine Ut ?_;refine VW ?_;rw[St.right_lt];exact ff
theorem F2(b:Bool)(w:World):CW prog 333 [.bool b] w (.w (Va b)):=by
 refine UB func333 ntmps333 ?_;refine yZ ?_ ?_<;>intro hc1
 .subst hc1;refine Ux ?_;exact vB
 subst hc1;refine fC ?_;exact ff
theorem oh(s:St)(Ad Ar:Oa)(cd cr:Nat)(SB addr:Int)(w:World)(h:kS w s Ad Ar cd cr):Uz prog 119 [sv s Ad cd Ar cr,.i SB,.w addr] w [] (D5 (s.SL SB addr)):=by
 refine UB func119 ntmps119 ?_;refine py ?_;refine ZO λb3=>?_;refine ZN λb6=>?_
 refine Uu ?_;refine UW (λw hi=>oo s Ad Ar cd cr w (h.SS hi)) ?_;exact Wx34_
theorem Ae(s:St)(Ad Ar:Oa)(cd cr:Nat)(w:World)(h:kS w s Ad Ar cd cr):Uz prog 278 [sv s Ad cd Ar cr] w [] (D5 s.back):=by
 refine UB func278 ntmps278 ?_;refine py ?_;refine ZO λb1=>?_;refine ZN λb2=>?_
 refine Uu ?_;refine UW (λw hi=>oo s Ad Ar cd cr w (h.SS hi)) ?_;rintro _ _ ⟨A1,c1,A2,c2,rfl,rfl⟩;refine ZM ?_;refine gX ?_;exact QX
theorem JP(s:St)(dv rv:Value)(reg:Int)(w:World):CW prog 279 [.agg (s.cells dv rv).toArray,.i reg] w (.tuple #[.w (s.get reg).1,.bool (s.get reg).2]):=by
 refine UB func279 ntmps279 ?_;refine py ?_;refine ZO λb2=>?_;refine oQ ?_;refine ZW ?_ ?_<;>intro hc1
 .have hr:reg<0\/10<reg:=by simpa using hc1
  refine UG ?_;refine pd ?_;rw[St.get_none s hr,St.Uh s hr];exact ff
 have hr:0<=reg/\reg<=10:=by(simp only[aY,aa]at hc1;omega)
 refine Us ?_;refine sS ?_;refine Ld 0 6 ?_;refine ZG 1 ?_;refine Ld 3 5 ?_;refine ZG 4 ?_;refine Ld 6 7 ?_;refine ZG 7 ?_;refine Ld 8 8 ?_;refine ZG 9 ?_;refine Ld 10 9 ?_;refine ZG 11 ?_;refine Ld 12 10 ?_;refine ZG 13 ?_;refine Ld 14 11 ?_;refine ZG 15 ?_;refine Ld 16 12 ?_;refine ZG 17 ?_;refine Ld 19 13 ?_;refine ZG 20 ?_;refine Ld 22 14 ?_;refine ZG 23 ?_;refine UF 24 I (cA I I ne I) ?_;refine Ld 25 3 ?_;refine ZG 26 ?_;refine ZE 28 ?_;refine cQ 2 Zk (VF (λw hi=>F2 _ w) ?_);refine Uw ?_;refine cQ 5 Zk (VF (λw hi=>F2 _ w) ?_);refine Uw ?_;refine cQ 18 Zk (VF (λw hi=>F2 _ w) ?_);refine Uw ?_;refine cQ 21 Zk (VF (λw hi=>F2 _ w) ?_);refine Uw ?_;refine cQ 27 Zk (vO ?_);rintro _ _ ⟨b39,rfl,rfl⟩;refine UF 29 I (bW (j:=reg.toNat) (sz:=1) (r:=reg.toNat) I ir (Zv I) (Zv I) Uq Uq O) ?_;refine US 30 I (bL ir (Zv I)) (cN (j:=reg.toNat) Zh (show(ints .u32 s.Tb)[reg.toNat]? =_ from bX (s.regs_at hr))) ?_;refine ZE 31 ?_;refine ZE 32 ?_;refine pI ?_;refine pd ?_;rw[St.Uf s hr];exact ff
theorem JO(s:St)(Ad Ar:Oa)(cd cr:Nat)(reg v:Int)(hv:u32 v)(w:World)(h:kS w s Ad Ar cd cr):Uz prog 280 [sv s Ad cd Ar cr,.i reg,.w v] w []
  (λx cs=>∃Ad' cd' Ar' cr',x= .tuple #[sv (s.set reg v).1 Ad' cd' Ar' cr',.bool (s.set reg v).2]/\cs=[UP s Ad' cd',UU s Ar' cr']):=by
 refine UB func280 ntmps280 ?_;refine py ?_;refine ZO λb3=>?_;refine ZN λb6=>?_
 refine UA ?_;refine UW (λw hi=>oo s Ad Ar cd cr w (h.SS hi)) ?_;rintro _ _ ⟨A1,c1,A2,c2,rfl,rfl⟩;refine ZM ?_;refine oQ ?_;refine ZW ?_ ?_<;>intro hc4
 .exact V3
 refine Ul ?_ ?_<;>intro hc6
 .exact V3
 refine Ul ?_ ?_<;>intro hc8
 .refine py ?_;refine Zy (jW (Zv I) (Zv I) O I) ?_;refine Zy (fL ne ne (mul64 v hv)) ?_;refine V2 ?_;exact Yw
 refine Ul ?_ ?_<;>intro hc10
 .exact Wc
 refine Ul ?_ ?_<;>intro hc12
 .exact Wc
 refine Ul ?_ ?_<;>intro hc14
 .exact Wc
 refine Ul ?_ ?_<;>intro hc16
 .exact Wc
 refine Ul ?_ ?_<;>intro hc18
 .exact V3
 refine Ul ?_ ?_<;>intro hc20
 .exact V3
 refine Ul ?_ ?_<;>intro hc22
 .refine py ?_;refine Zy (fH (Zv I) (Zv I) O (rem16 v hv)) ?_;refine V2 ?_;exact Yw
 exact Wx40_
end
end Go.Ink
