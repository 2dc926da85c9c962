/- Lemmas. -/
import Derived.Test.YtepfimeihngjoaaGreatDoorXab
import Derived.Test.YtepfimeihngjoaaGreatDoorXac
set_option linter.all false
set_option maxRecDepth 100000
set_option maxHeartbeats 4000000
namespace Go.Ink
open List renaming length→J
open IntKind renaming wrap→V9
open Go.RowKit Go.Proofs.Tryz
variable{w:World}{n:Nat}{xs:List Value}
variable{i:Nat}{listed:Array Bool}{l:List Nat}
variable{ops:Array Oper}{p:Nat×Nat}{o:Oper}
section
variable{C:Cx}{Q:lK}{fr:Fr}{cs:List bJ}{ops:Array Oper}{d:Nat}{op:Op}{ty:TypeId}{pos:String}{af:Array Edge}{V:World->Prop}{v:Value}{St:Dr}{i:Nat}{s:List (Nat×Nat)}
variable{st:Bool}{K:Value->List bJ->Prop}
theorem mX(hi:ops[i]? =some ⟨some d,op,ty,pos,af,none⟩)(hst:St.st i=st)
  (ht:VU C ⟨some d,op,ty,pos,af,none⟩ fr cs st K) (hJ:st=true->∀v cs',K v cs'->∀w,Inv C.w0 C.S cs' w->cells St.l0 w) (hd:Nat.blt d C.N=true) (h:∀v cs',K v cs'->WS C St ops Q s ((d,v)::fr) cs'):WSI C St ops Q i s fr cs:=λfuel listed h1 h2 h3 h4=>
 jm hi hst ht hJ hd λv cs' hk=>h v cs' hk fuel _ h1 h2 h3 h4
theorem sk(hi:ops[i]? =some ⟨none,op,ty,pos,af,none⟩)(hst:St.st i=st)
  (ht:VU C ⟨none,op,ty,pos,af,none⟩ fr cs st K) (hJ:st=true->∀v cs',K v cs'->∀w,Inv C.w0 C.S cs' w->cells St.l0 w) (h:∀v cs',K v cs'->WS C St ops Q s fr cs'):WSI C St ops Q i s fr cs:=λfuel listed h1 h2 h3 h4=>
 fq hi hst ht hJ λv cs' hk=>h v cs' hk fuel _ h1 h2 h3 h4
theorem RQ(hi:ops[i]? =some ⟨some d,op,ty,pos,af,none⟩)(hy:Ve C ⟨some d,op,ty,pos,af,none⟩ fr true V v)(hV:∀w,Inv C.w0 C.S cs w->V w)(hd:Nat.blt d C.N=true)
  (h:WS C St ops Q s ((d,v)::fr) cs):WSI C St ops Q i s fr cs:=λfuel listed h1 h2 h3 h4=>un hi hy hV hd (h fuel _ h1 h2 h3 h4)
end
section
section
variable{C:Cx}{Q:lK}{fr:Fr}{cs cs':List bJ}{ops:Array Oper}{x y:Code}{rest:List Oper}{fn:Func}{K:Value->List bJ->Prop}{v:Value}{d:Nat}{f:FuncId}{ty:TypeId}{pos:String}{af:Array Edge}{i fuel:Nat}{listed:Array Bool}{St:Dr}{l:List Operand}{vs:List Value}{ats:Array TypeId}
theorem ZJ{st:Bool}{L:List (Addr×Value)}(hl:L=[]:=by exact I):st=true->∀v cs',K v cs'->∀w,Inv C.w0 C.S cs' w->cells L w:=by
 subst hl
 intro _ _ _ _ _ _ _ h
 cases h
theorem ZW{o:Operand}{b:Bool}(ht:b=true->WC C x Q fr cs)(hf:b=false->WC C y Q fr cs)(hc:ev fr o=some (.bool b):=by exact I):WC C (.cond o x y) Q fr cs:=C1 b hc ht hf
variable{t:Nat}
theorem Wl(hk:K v [])(h0:fn.results= #[.tmp t]:=by exact I)(h1:look fr t=some v:=by exact I):VC C (bodyPost C.P fn (Ah C.w0 C.S K)) .ret fr cs:=Fl (.inl I) (List.nil_sublist _) h0 h1 hk
theorem VA(cs':List bJ)(hk:K v cs')(hs:cs'.Sublist cs:=by exact Zu)(h0:fn.results= #[.tmp t]:=by exact I)(h1:look fr t=some v:=by exact I):VC C (bodyPost C.P fn (Ah C.w0 C.S K)) .ret fr cs:=Fl (.inl I) hs h0 h1 hk
theorem Ws(cin:List bJ){rs:List bJ}(hc:∀w,Inv C.w0 C.S cs w->Inv w (bM cin) cin w->UW C.P f vs w cin K)(h:∀v cs',(∃cout,K v cout/\cs'=cout++rs)->WL C ops Q rest ((d,v)::fr) cs')(hl:evs fr l=some vs:=by exact I)(hf:∀args w,(callFunc f args).run C.P w= .ok (.enter f args) w:=by exact λ_ _=>I)(hp:ik cin cs rs:=by exact Zi)(hd:Nat.blt d C.N=true:=by exact I):
  WL C ops Q (⟨some d,.call {callee:= .value (.func f),args:=l.toArray,argTypes:=ats},ty,pos,af,none⟩::rest) fr cs:=gS (dh cin hl hf hp hc) hd h
theorem ZcA(cin:List bJ){rs:List bJ}(hc:∀w,Inv C.w0 C.S cs w->Inv w (bM cin) cin w->UW C.P f vs w cin K)(h:∀v cs',(∃cout,K v cout/\cs'=cout++rs)->WA C St ops Q fuel (listed.setIfInBounds i true) ((d,v)::fr) cs')(hi:ops[i]? =some ⟨some d,.call {callee:= .value (.func f),args:=l.toArray,argTypes:=ats},ty,pos,af,none⟩:=by exact I)(hst:St.st i=true:=by exact I)(hl0:St.l0=[]:=by exact I)(hl:evs fr l=some vs:=by exact I)(hf:∀args w,(callFunc f args).run C.P w= .ok (.enter f args) w:=by exact λ_ _=>I)(hp:ik cin cs rs:=by exact Zi)(hd:Nat.blt d C.N=true:=by exact I):
  WI C St ops Q fuel listed i fr cs:=jm hi hst (dh cin hl hf hp hc) (ZJ hl0) hd h
theorem py{x:Operand}{u:Value}{g:Bool}(h:ev fr x=some u:=by exact I):Ev fr g x u:=sL h
variable{k:Nat}
theorem Zfo{P:Program}{T:Nat}(h:iB P T k=some n:=by first|exact(rfl:_=some 0)|exact(rfl:_=some 1)|exact(rfl:_=some 2)|exact(rfl:_=some 3)|exact(rfl:_=some 4)|exact(rfl:_=some 5)|exact(rfl:_=some 6)|exact(rfl:_=some 7)|exact(rfl:_=some 8)|exact(rfl:_=some 9)|exact(rfl:_=some 10)|exact(rfl:_=some 11)|exact(rfl:_=some 12)|exact(rfl:_=some 13)|exact(rfl:_=some 14)|exact(rfl:_=some 15)|exact(rfl:_=some 16)|exact(rfl:_=some 17)|exact(rfl:_=some 18)|exact(rfl:_=some 19)|exact(rfl:_=some 20)|exact(rfl:_=some 21)):iB P T k=some n:=h
variable{T:TypeId}{bb r o:Nat}
theorem ZFc{x:Operand}(h:WL C ops Q rest ((d,.pointer (some ⟨bb,r,none⟩))::fr) cs)(ho:iB C.P T k=some n:=by exact Zfo)(hx:Ev fr true x (.pointer (some ⟨bb,o,none⟩)):=by exact VT)(hr:o+n=r:=by exact Zf)(hd:Nat.blt d C.N=true:=by exact I):
  WL C ops Q (⟨some d,.fieldAddr T x k,ty,pos,af,none⟩::rest) fr cs:=dZ (dg n ho hx hr) (λ_ _=>trivial) hd h
theorem ZFd{x:Operand}{g:Bool}{j:Nat×Bool}(h:WL C ops Q rest ((d,bif g then .pointer (some ⟨bb,r,none⟩)else undef)::fr) cs)(hg:bN ops fr ⟨some d,.fieldAddr T x k,ty,pos,af,some j⟩ g:=by exact Zgd)(ho:iB C.P T k=some n:=by exact Zfo)(hx:Ev fr g x (.pointer (some ⟨bb,o,none⟩)):=by exact VT)(hr:o+n=r:=by exact Zf)(hd:Nat.blt d C.N=true:=by exact I):
  WL C ops Q (⟨some d,.fieldAddr T x k,ty,pos,af,some j⟩::rest) fr cs:=iX hg (dg n ho hx hr) (λ_ _=>trivial) hd h
theorem ZlR{x:Operand}(h:WL C ops Q rest ((d,.agg xs.toArray)::fr) cs)(hx:Ev fr true x (.p bb):=by exact VT)(hc:Vk cs (row bb xs t):=by exact Zh)(hT:∀w,(isAgg T).run C.P w= .ok true w:=by exact λ_=>I)(hs:∀w,(sizeOf T).run C.P w= .ok (J xs) w:=by exact λ_=>I)(hd:Nat.blt d C.N=true:=by exact I):
  WL C ops Q (⟨some d,.load T x,ty,pos,af,none⟩::rest) fr cs:=GK hc hT hs hx hd h
theorem UZ{X:Value}(hc:∀w,Inv C.w0 C.S cs w->UW C.P f vs w [] (λv cs=>v=X/\cs=[]))(h:WL C ops Q rest ((d,X)::fr) cs)(hl:evs fr l=some vs:=by exact I)(hf:∀args w,(callFunc f args).run C.P w= .ok (.enter f args) w:=by exact λ_ _=>I)(hd:Nat.blt d C.N=true:=by exact I):
  WL C ops Q (⟨some d,.call {callee:= .value (.func f),args:=l.toArray,argTypes:=ats},ty,pos,af,none⟩::rest) fr cs:=ZS hc (λv cs' ⟨news,⟨h1,h2⟩,h3⟩=>by subst h1 h2;rw[aD]at h3;subst h3;exact h) hl hf hd
theorem Vq{X:Value}(cin:List bJ){rs Y:List bJ}(hc:∀w,Inv C.w0 C.S cs w->Inv w (bM cin) cin w->UW C.P f vs w cin (λv cs=>v=X/\cs=Y))(h:WL C ops Q rest ((d,X)::fr) (Y++rs))(hl:evs fr l=some vs:=by exact I)(hf:∀args w,(callFunc f args).run C.P w= .ok (.enter f args) w:=by exact λ_ _=>I)(hp:ik cin cs rs:=by exact Zi)(hd:Nat.blt d C.N=true:=by exact I):
  WL C ops Q (⟨some d,.call {callee:= .value (.func f),args:=l.toArray,argTypes:=ats},ty,pos,af,none⟩::rest) fr cs:=Ws cin hc (λv cs' ⟨co,⟨h1,h2⟩,h3⟩=>by subst h1 h2 h3;exact h) hl hf hp hd
end
variable{P Q:Prop}
theorem Wv(h:Q)(f:Q->P:=by first
 |with_reducible exact λh=>Zs h|with_reducible exact λh=>Zr h|with_reducible exact λh=>Zn h|with_reducible exact λh=>Zt h|with_reducible exact λh=>Zc h|with_reducible exact λh=>Zo h|with_reducible exact λh=>Zx h|with_reducible exact λh=>Ze h|with_reducible exact λh=>Zw h|with_reducible exact λh=>Zq h|with_reducible exact λh=>wc_exit h|with_reducible exact λh=>DJ h
 |exact λh=>ZA h|exact λh=>ZFc h|exact λh=>ZC h|exact λh=>ZlR h|exact λh=>ZB h|exact λh=>ZD h|exact λh=>ZFd h
 |exact λh=>Bt I h|exact λh=>zb I h):P:=f h
theorem An(h:Q)(f:Q->P:=by intro h;(iterate 2 refine Wv ?_);exact h):P:=f h
theorem UN(h:Q)(f:Q->P:=by intro h;(iterate 3 refine Wv ?_);exact h):P:=f h
theorem UK(h:Q)(f:Q->P:=by intro h;(iterate 4 refine Wv ?_);exact h):P:=f h
theorem UQ(h:Q)(f:Q->P:=by intro h;(iterate 5 refine Wv ?_);exact h):P:=f h
theorem UU(h:Q)(f:Q->P:=by intro h;(iterate 6 refine Wv ?_);exact h):P:=f h
theorem US(h:Q)(f:Q->P:=by intro h;(iterate 7 refine Wv ?_);exact h):P:=f h
theorem Va(h:Q)(f:Q->P:=by intro h;(iterate 8 refine Wv ?_);exact h):P:=f h
theorem U8(h:Q)(f:Q->P:=by intro h;(iterate 9 refine Wv ?_);exact h):P:=f h
theorem eL(h:Q)(f:Q->P:=by intro h;(iterate 10 refine Wv ?_);exact h):P:=f h
theorem gP(h:Q)(f:Q->P:=by intro h;(iterate 11 refine Wv ?_);exact h):P:=f h
theorem fR(h:Q)(f:Q->P:=by intro h;(iterate 12 refine Wv ?_);exact h):P:=f h
theorem mv(h:Q)(f:Q->P:=by intro h;(iterate 13 refine Wv ?_);exact h):P:=f h
theorem kF(h:Q)(f:Q->P:=by intro h;(iterate 14 refine Wv ?_);exact h):P:=f h
theorem nW(h:Q)(f:Q->P:=by intro h;(iterate 15 refine Wv ?_);exact h):P:=f h
theorem oO(h:Q)(f:Q->P:=by intro h;(iterate 16 refine Wv ?_);exact h):P:=f h
theorem wD(h:Q)(f:Q->P:=by intro h;(iterate 17 refine Wv ?_);exact h):P:=f h
theorem wn(h:Q)(f:Q->P:=by intro h;(iterate 18 refine Wv ?_);exact h):P:=f h
theorem Jm(h:Q)(f:Q->P:=by intro h;(iterate 19 refine Wv ?_);exact h):P:=f h
theorem jS(h:Q)(f:Q->P:=by intro h;(iterate 20 refine Wv ?_);exact h):P:=f h
end
section
variable{C:Cx}{Q:lK}{fr:Fr}{cs:List bJ}{ops:Array Oper}{x y:Code}{rest:List Oper}{K:Value->List bJ->Prop}{v:Value}{d:Nat}{f:FuncId}{ty:TypeId}{pos:String}{af:Array Edge}{i fuel:Nat}{listed:Array Bool}{St:Dr}{l:List Operand}{vs:List Value}{ats:Array TypeId}{op:Op}{gd:Option (Nat×Bool)}{g:Bool}
variable{args:List Value}
theorem Vb{P:Program}{fn:Func}{c:Code}{N:Nat}{cin:List bJ}(hf:P.funcs[f]? =some fn)(hn:fn.ntmps=N)(hi:Inv w (bM cin) cin w)(h:WC ⟨P,N,w,bM cin⟩ c (bodyPost P fn (Ah w (bM cin) K)) (vw 0 args) cin)(hb:fn.body=some c:=by exact I)(hl:Nat.ble (J args) N=true:=by exact I):UW P f args w cin K:=xQ hf hb hn hl hi h
theorem UV{P:Program}{fn:Func}{c:Code}{N:Nat}(hf:P.funcs[f]? =some fn)(hn:fn.ntmps=N)(h:WC ⟨P,N,w,bM []⟩ c (bodyPost P fn (Ah w (bM []) K)) (vw 0 args) [])(hb:fn.body=some c:=by exact I)(hl:Nat.ble (J args) N=true:=by exact I):UW P f args w [] K:=xQ hf hb hn hl (Inv.start w) h
theorem UY(i:Nat)(hi:ops[i]? =some ⟨some d,op,ty,pos,af,none⟩)(hy:Ve C ⟨some d,op,ty,pos,af,none⟩ fr true Vr v)(h:WA C St ops Q fuel (listed.setIfInBounds i true) ((d,v)::fr) cs)(hs:Region.noSelect ops=true:=by exact Zk)(hfree:Region.free .any ops listed i=true:=by exact Zk)(hr:(Region.ready .any ops listed).contains i=true:=by exact Zk)(hd:Nat.blt d C.N=true:=by exact I):WA C St ops Q (fuel+1) listed fr cs:=eX i hi hs hfree hr hy hd h
theorem Vn(i:Nat){l:List (Addr×Value)}(hi:ops[i]? =some ⟨some d,op,ty,pos,af,none⟩)(hy:Ve C ⟨some d,op,ty,pos,af,none⟩ fr true (cells l) v)(hV:∀w,Inv C.w0 C.S cs w->cells l w)(h:WA C St ops Q fuel (listed.setIfInBounds i true) ((d,v)::fr) cs)(hs:Region.noSelect ops=true:=by exact Zk)(hfree:Region.free .any ops listed i=true:=by exact Zk)(hst:oY .any ops St.st listed i=true:=by exact Zk)(hr:(Region.ready .any ops listed).contains i=true:=by exact Zk)(hd:Nat.blt d C.N=true:=by exact I):WA C St ops Q (fuel+1) listed fr cs:=qZ i hi hs hfree hst hr hy hV hd h
theorem Zy6(i:Nat)(hi:ops[i]? =some ⟨some d,op,ty,pos,af,gd⟩)(hg:bN ops fr ⟨some d,op,ty,pos,af,gd⟩ g)(hy:Ve C ⟨some d,op,ty,pos,af,gd⟩ fr g Vr v)(h:WA C St ops Q fuel (listed.setIfInBounds i true) ((d,bif g then v else undef)::fr) cs)(hs:Region.noSelect ops=true:=by exact Zk)(hfree:Region.free .any ops listed i=true:=by exact Zk)(hr:(Region.ready .any ops listed).contains i=true:=by exact Zk)(hd:Nat.blt d C.N=true:=by exact I):WA C St ops Q (fuel+1) listed fr cs:=wa_y i hi hs hfree hr hg hy hd h
theorem Zy7(i:Nat){l:List (Addr×Value)}(hi:ops[i]? =some ⟨some d,op,ty,pos,af,gd⟩)(hg:bN ops fr ⟨some d,op,ty,pos,af,gd⟩ g)(hy:Ve C ⟨some d,op,ty,pos,af,gd⟩ fr g (cells l) v)(hV:∀w,Inv C.w0 C.S cs w->cells l w)(h:WA C St ops Q fuel (listed.setIfInBounds i true) ((d,bif g then v else undef)::fr) cs)(hs:Region.noSelect ops=true:=by exact Zk)(hfree:Region.free .any ops listed i=true:=by exact Zk)(hst:oY .any ops St.st listed i=true:=by exact Zk)(hr:(Region.ready .any ops listed).contains i=true:=by exact Zk)(hd:Nat.blt d C.N=true:=by exact I):WA C St ops Q (fuel+1) listed fr cs:=wa_l i hi hs hfree hst hr hg hy hV hd h
theorem Vl(hc:∀w,Inv C.w0 C.S cs w->UW C.P f vs w [] K)(h:∀v n,K v n->WL C ops Q rest ((d,v)::fr) (cs++n))(hl:evs fr l=some vs:=by exact I)(hf:∀args w,(callFunc f args).run C.P w=.ok (.enter f args) w:=by exact λ_ _=>I)(hd:Nat.blt d C.N=true:=by exact I):WL C ops Q (⟨some d,.call {callee:=.value (.func f),args:=l.toArray,argTypes:=ats},ty,pos,af,none⟩::rest) fr cs:=ZS hc (λv _ ⟨n,k,e⟩=>e▸h v n k) hl hf hd
theorem V1(hc:∀w,Inv C.w0 C.S cs w->UW C.P f vs w [] K)(h:∀v n,K v n->WA C St ops Q fuel (listed.setIfInBounds i true) ((d,v)::fr) (cs++n))(hi:ops[i]? =some ⟨some d,.call {callee:=.value (.func f),args:=l.toArray,argTypes:=ats},ty,pos,af,none⟩:=by exact I)(hst:St.st i=false:=by exact I)(hl:evs fr l=some vs:=by exact I)(hf:∀args w,(callFunc f args).run C.P w=.ok (.enter f args) w:=by exact λ_ _=>I)(hd:Nat.blt d C.N=true:=by exact I):WI C St ops Q fuel listed i fr cs:=ZT hc (λv _ ⟨n,k,e⟩=>e▸h v n k) hi hst hl hf hd
theorem dH(cin:List bJ){rs:List bJ}(hc:∀w,Inv C.w0 C.S cs w->Inv w (bM cin) cin w->UW C.P f vs w cin K)(h:∀v n,K v n->WL C ops Q rest ((d,v)::fr) (n++rs))(hl:evs fr l=some vs:=by exact I)(hf:∀args w,(callFunc f args).run C.P w=.ok (.enter f args) w:=by exact λ_ _=>I)(hp:ik cin cs rs:=by exact Zi)(hd:Nat.blt d C.N=true:=by exact I):WL C ops Q (⟨some d,.call {callee:=.value (.func f),args:=l.toArray,argTypes:=ats},ty,pos,af,none⟩::rest) fr cs:=Ws cin hc (λv _ ⟨n,k,e⟩=>e▸h v n k) hl hf hp hd
theorem rX(cin:List bJ){rs:List bJ}(hc:∀w,Inv C.w0 C.S cs w->Inv w (bM cin) cin w->UW C.P f vs w cin K)(h:∀v n,K v n->WA C St ops Q fuel (listed.setIfInBounds i true) ((d,v)::fr) (n++rs))(hi:ops[i]? =some ⟨some d,.call {callee:=.value (.func f),args:=l.toArray,argTypes:=ats},ty,pos,af,none⟩:=by exact I)(hst:St.st i=true:=by exact I)(hl0:St.l0=[]:=by exact I)(hl:evs fr l=some vs:=by exact I)(hf:∀args w,(callFunc f args).run C.P w=.ok (.enter f args) w:=by exact λ_ _=>I)(hp:ik cin cs rs:=by exact Zi)(hd:Nat.blt d C.N=true:=by exact I):WI C St ops Q fuel listed i fr cs:=ZcA cin hc (λv _ ⟨n,k,e⟩=>e▸h v n k) hi hst hl0 hl hf hp hd
variable{P:Prop}{o:Operand}{b:Bool}
theorem VP(ht:b=true->WC C x Q fr cs)(hf:b=false->WC C y Q fr cs)(f:Ld (WC C (.cond o x y) Q fr cs)->P:=by intro y9;exact UN y9.1)(hc:ev fr o=some (.bool b):=by exact I):P:=f ⟨ZW ht hf hc⟩
theorem WK(ht:b=true->WC C x Q fr cs)(hf:b=false->WC C y Q fr cs)(f:Ld (WC C (.cond o x y) Q fr cs)->P:=by intro y9;exact UK y9.1)(hc:ev fr o=some (.bool b):=by exact I):P:=f ⟨ZW ht hf hc⟩
theorem Wh(ht:b=true->WC C x Q fr cs)(hf:b=false->WC C y Q fr cs)(f:Ld (WC C (.cond o x y) Q fr cs)->P:=by intro y9;exact UQ y9.1)(hc:ev fr o=some (.bool b):=by exact I):P:=f ⟨ZW ht hf hc⟩
theorem UH(ht:b=true->WC C x Q fr cs)(hf:b=false->WC C y Q fr cs)(f:Ld (WC C (.cond o x y) Q fr cs)->P:=by intro y9;exact UU y9.1)(hc:ev fr o=some (.bool b):=by exact I):P:=f ⟨ZW ht hf hc⟩
theorem VJ(ht:b=true->WC C x Q fr cs)(hf:b=false->WC C y Q fr cs)(f:Ld (WC C (.cond o x y) Q fr cs)->P:=by intro y9;exact US y9.1)(hc:ev fr o=some (.bool b):=by exact I):P:=f ⟨ZW ht hf hc⟩
theorem Wp(ht:b=true->WC C x Q fr cs)(hf:b=false->WC C y Q fr cs)(f:Ld (WC C (.cond o x y) Q fr cs)->P:=by intro y9;exact Va y9.1)(hc:ev fr o=some (.bool b):=by exact I):P:=f ⟨ZW ht hf hc⟩
theorem Wc(ht:b=true->WC C x Q fr cs)(hf:b=false->WC C y Q fr cs)(f:Ld (WC C (.cond o x y) Q fr cs)->P:=by intro y9;exact U8 y9.1)(hc:ev fr o=some (.bool b):=by exact I):P:=f ⟨ZW ht hf hc⟩
theorem oU(ht:b=true->WC C x Q fr cs)(hf:b=false->WC C y Q fr cs)(f:Ld (WC C (.cond o x y) Q fr cs)->P:=by intro y9;exact eL y9.1)(hc:ev fr o=some (.bool b):=by exact I):P:=f ⟨ZW ht hf hc⟩
theorem yh(ht:b=true->WC C x Q fr cs)(hf:b=false->WC C y Q fr cs)(f:Ld (WC C (.cond o x y) Q fr cs)->P:=by intro y9;exact gP y9.1)(hc:ev fr o=some (.bool b):=by exact I):P:=f ⟨ZW ht hf hc⟩
theorem Ab(ht:b=true->WC C x Q fr cs)(hf:b=false->WC C y Q fr cs)(f:Ld (WC C (.cond o x y) Q fr cs)->P:=by intro y9;exact mv y9.1)(hc:ev fr o=some (.bool b):=by exact I):P:=f ⟨ZW ht hf hc⟩
theorem uf(ht:b=true->WC C x Q fr cs)(hf:b=false->WC C y Q fr cs)(f:Ld (WC C (.cond o x y) Q fr cs)->P:=by intro y9;exact kF y9.1)(hc:ev fr o=some (.bool b):=by exact I):P:=f ⟨ZW ht hf hc⟩
end
abbrev CW(P:Program)(f:FuncId)(a:List Value)(w:World)(y:Value):Prop:=UW P f a w [] (λv cs=>v=y/\cs=[])
abbrev CI(P:Program)(f:FuncId)(a:List Value)(X:List bJ)(K:Value->List bJ->Prop):Prop:=∀w,Inv w (bM X) X w->UW P f a w X K
section
variable{C:Cx}{Q:lK}{fr:Fr}{cs:List bJ}{c:Code}
variable{σ:Type}{F:σ->Fr}{G:σ->List bJ}{ok:σ->Prop}
theorem Vd(s:σ)(ho:ok s)(hf:Wk fr (F s):=by exact Xq)(hg:z9 (G s) cs:=by exact Zj):VC C (Exit.then (Mid C F G ok) Q) .normal fr cs:=sC s ho hf hg
theorem VM(s:σ)(ho:ok s)(hf:Wk fr (F s):=by exact Xq)(hg:(G s).Sublist cs:=by exact Zu):VC C (Exit.then (Mid C F G ok) Q) .normal fr cs:=q_mid s ho hf hg
theorem Vs(F:σ->Fr)(G:σ->List bJ)(ok:σ->Prop)(μ:σ->Nat)(s0:σ)(h0:ok s0)(round:∀s,ok s->WC C c (Exit.then (Mid C F G λs'=>ok s'/\μ s'<μ s) Q) (F s) (G s))(hf:Wk fr (F s0):=by exact Xq)(hg:(G s0).Sublist cs:=by exact Zu):WC C (.loop c) Q fr cs:=mB F G ok μ s0 h0 hf hg round
theorem UJ(k:bJ)(h:Vk cs k:=by exact Zh):Vk cs k:=h
abbrev WM(l:List Nat)(k:List (Addr×Value)):Dr:=⟨λj=>List.elem j l,k⟩
abbrev Vg(l:List Nat):Dr:=⟨λj=>List.elem j l,[]⟩
end
abbrev St.cells(s:St)(dv rv:Value):List Value:=
 [.w s.pc,dv,rv,.w s.flags,.bool s.SQ,.bool s.S1,.bool s.ie,.w s.root,.w s.vec,.w s.epc,.w s.SU,.w s.addr,.bool s.S6,.bool s.eie,.int .u64 s.count,.bool s.halted]
def St.get(s:St)(reg:Int):Int×Bool:=
 bif reg==0 then(Vx s.ie,true)else bif reg==1 then(Vx s.S1,true)else bif reg==2 then(s.root,true)else bif reg==3 then(s.vec,true)else bif reg==4 then(s.epc,true)else
 bif reg==5 then(s.SU,true)else bif reg==6 then(s.addr,true)else bif reg==7 then(Vx s.S6,true)else bif reg==8 then(Vx s.eie,true)else bif reg==9 then(V9 .u32 s.count,true)else
 bif reg==10 then(s.flags,true)else(0,false)
def St.set(s:St)(reg v:Int):St×Bool:=
 bif reg==0 then({s with ie:=v !=0},true)else bif reg==1 then({s with S1:=v !=0},true)else bif reg==2 then({s with root:=bits .andNot .u32 v 63},true)else bif reg==3 then({s with vec:=v},true)else
 bif reg==4 then({s with epc:=v},true)else bif reg==5 then({s with SU:=v},true)else bif reg==6 then({s with addr:=v},true)else bif reg==7 then({s with S6:=v !=0},true)else bif reg==8 then({s with eie:=v !=0},true)else
 bif reg==10 then({s with flags:=bits .and .u32 v 15},true)else(s,false)
section
attribute [local irreducible] Ve bN
theorem K4(b:Bool)(w:World):CW prog 315 [.bool b] w (.w (Vx b)):=by
 refine UV func315 ntmps315 ?_;refine yh ?_ ?_<;>intro hc1
 .subst hc1;refine US ?_;exact wQ
 subst hc1;refine fS ?_;exact fx
theorem Gn(A:Oa)(n c:Nat)(xs:Li)(w:World)(h:Rd w .u32 A n c xs)(hn:n*4<=140737488355328):UW prog 122 [.slice A n c] w [] (λv cs=>∃A' c',v= .slice A' n c'/\cs=[sl .u32 32 A' n c' xs]):=by
 refine UV func122 ntmps122 ?_;refine fR ?_;refine ZW ?_ ?_<;>intro hc1
 .obtain rfl:A=none:=by simpa using hc1
  obtain⟨rfl,rfl⟩:=h.nil I;obtain rfl:xs=[]:=by have:=h.len;simpa[ints]using this
  refine An ?_;refine dB 32 1 (UQ ?_);exact Nq
 refine UK ?_;refine jQ ?_;rintro _ _ ⟨b5,rfl,rfl⟩;refine ZA ?_;refine gS (cC (e:=32) (sz:=1) (bytes:=4) I I Za I I (λw hi=>h.Tb hi) cR gD O) I ?_;rintro _ _ ⟨A',c',rfl,rfl⟩;simp only[bC,aR];refine UK ?_;exact Nq
structure iL(w:World)(s:St)(Ad Ar:Oa)(cd cr:Nat):Prop where
 d:Rd w .u32 Ad (J s.d) cd s.d
 r:Rd w .u32 Ar (J s.r) cr s.r
 hd:J s.d*4<=140737488355328
 hr:J s.r*4<=140737488355328
theorem iL.Tb{w0 w:World}{cs:List bJ}{s:St}{Ad Ar:Oa}{cd cr:Nat}(h:iL w0 s Ad Ar cd cr)(hi:Inv w0 [] cs w):iL w s Ad Ar cd cr:=⟨h.d.Tb hi,h.r.Tb hi,h.hd,h.hr⟩
abbrev sv(s:St)(Ad:Oa)(cd:Nat)(Ar:Oa)(cr:Nat):Value:= .agg (s.cells (.slice Ad (J s.d) cd) (.slice Ar (J s.r) cr)).toArray
abbrev Vf(s:St)(A:Oa)(c:Nat):bJ:=sl .u32 32 A (J s.d) c s.d
abbrev Vj(s:St)(A:Oa)(c:Nat):bJ:=sl .u32 32 A (J s.r) c s.r
def CK(s:St)(v:Value)(cs:List bJ):Prop:=∃Ad cd Ar cr,v=sv s Ad cd Ar cr/\cs=[Vf s Ad cd,Vj s Ar cr]
theorem pL(s:St)(Ad Ar:Oa)(cd cr:Nat)(w:World)(h:iL w s Ad Ar cd cr):UW prog 71 [sv s Ad cd Ar cr] w [] (CK s):=by
 refine UV func71 ntmps71 ?_;refine An ?_;refine ZO λb1=>?_;refine ZN λb2=>?_
 refine UN ?_;refine bQ (Vg [7,9]) Zk (UE 0 1 ?_);refine ZG 1 ?_;refine UE 3 2 ?_;refine ZG 4 ?_;refine cP 2 Zk (V1 (λw hi=>Gn Ad _ cd s.d w (h.d.Tb hi) h.hd) ?_);rintro _ _ ⟨A1,c1,rfl,rfl⟩;refine UE 6 1 ?_;refine cP 5 Zk (V1 (λw hi=>Gn Ar _ cr s.r w (h.r.Tb hi) h.hr) ?_);rintro _ _ ⟨A2,c2,rfl,rfl⟩;refine iK ?_;refine ZQ ?_;refine UE 8 2 ?_;refine kt ?_;refine iT ?_;refine UK ?_;refine oV ?_;exact lL (cs':=[slv _ _ _ _ _ _,slv _ _ _ _ _ _]) (.inl I) Zu I I Zh ir ir ⟨_,_,_,_,I,I⟩
end
def PAok(C:Cx)(St:Dr)(ops:Array Oper)(p:PA):Prop:=
 ∃op ty pos af,ops[p.i]? =some ⟨some p.d,op,ty,pos,af,none⟩/\St.st p.i=false/\Nat.blt p.d C.N=true/\∀fr cs,VU C ⟨some p.d,op,ty,pos,af,none⟩ fr cs false (λv cs'=>∃b,v= .p b/\cs'=cs++[row b p.zs p.T])
section
variable{C:Cx}{fr:Fr}{ops:Array Oper}{St:Dr}{listed:Array Bool}{pl:List PA}
structure PLok(C:Cx)(St:Dr)(ops:Array Oper)(pl:List PA)(listed:Array Bool)(fr:Fr):Prop where
 ok:∀p,p∈pl->PAok C St ops p
 fr:∀p,p∈pl->look fr p.d=none
 dn:(pl.map (·.d)).Nodup
 in_:(pl.map (·.i)).Nodup
 rd:∀p,p∈pl->p.i∈Region.ready .any ops listed
end
theorem PLok.of{C:Cx}{St:Dr}{pl:List PA}{fr:Fr}(ok:∀p,p∈pl->PAok C St ops p)(hfr:(pl.all λp=>(look fr p.d).isNone)=true)(hn:(pl.map (·.d)).Nodup/\(pl.map (·.i)).Nodup)
  (hrd:(pl.all λp=>(Region.ready .any ops listed).contains p.i)=true):PLok C St ops pl listed fr:=
 ⟨ok,λp hp=>by simpa using List.all_eq_true.1 hfr p hp,hn.1,hn.2,λp hp=>by simpa using List.all_eq_true.1 hrd p hp⟩
section
variable{C:Cx}{Q:lK}{fr:Fr}{cs:List bJ}{ops:Array Oper}{d:Nat}{op:Op}{ty:TypeId}{pos:String}{af:Array Edge}{v:Value}{g:Bool}{St:Dr}{fuel:Nat}{listed:Array Bool}
theorem xg(i:Nat){l:List (Addr×Value)}(hi:ops[i]? =some ⟨some d,op,ty,pos,af,none⟩)(hs:Region.noSelect ops=true)(hfree:Region.free .any ops listed i=true)(hr:(Region.ready .any ops listed).contains i=true)
  (hy:Ve C ⟨some d,op,ty,pos,af,none⟩ fr true (cells l) v) (hm:∀x,x∈l->x∈St.l0) (hV:∀w,Inv C.w0 C.S cs w->cells St.l0 w) (hd:Nat.blt d C.N=true)
  (h:WA C St ops Q fuel (listed.setIfInBounds i true) ((d,v)::fr) cs):WA C St ops Q (fuel+1) listed fr cs:=λa w hf hi'=>
 jD (V:=cells St.l0) (λ_ _ hp h x hx=>hp _ _ (h x hx)) hi (Region.noSelect_spec hs) (λ_ _ _ h=>h) fuel listed a w (λj oj hj hne hun hno=>⟨Region.free_spec hi hfree j oj hj hne hun hno,.inr (.inr λ_ _ h=>h)⟩)
  (by simpa using hr) (jk (g:=true) gj (λa w hf hV hg=>hy a w hf (λx hx=>hV _ (hm x hx)) hg) hf) (hV w hi') (h _ w (hf.put (by simpa[Nat.blt_eq]using hd) _) hi')
theorem gl{bb:Nat}:∀x,x∈fa ⟨bb,0,none⟩ 0 xs->x∈m5 bb xs:=λx hx=>by
 obtain⟨j,h1,h2⟩:=gW hx;obtain⟨ad,v⟩:=x;dsimp only at h1 h2;have:=dx (bb:=bb) h1;rw[h2,Addr.add_lit,bC,bC];exact this
end
end Go.Ink
namespace Go.Ink
open List renaming length→J, replicate→R9
open IntKind renaming wrap→V9
open Go.RowKit Go.Proofs.Tryz
def lH(l:List Bool):List Value:=l.map Value.bool
theorem mq(l:List Bool):J (lH l)=J l:=by simp[lH]
variable{j:Nat}{b:Bool}
theorem wh(l:List Bool)(j:Nat)(b:Bool):(lH l).set j (.bool b)=lH (l.set j b):=by simp[lH]
theorem eK{k:IntKind}(xs:Li)(j:Nat)(v:Int):(ints k xs).set j (.int k v)=ints k (xs.set j v):=by simp[ints]
def du(B ow pr:Li):List Value:=ints .u8 B++(ints .i64 ow++ints .i64 pr)
section
variable{B ow pr:Li}
theorem gV(h:eV B ow pr):J (du B ow pr)=16644:=by
 simp[du,dF,h.b,h.ow,h.pr]
theorem pool_B{i:Nat}{v:Int}(h:B[i]? =some v):(du B ow pr)[i]? =some (.int .u8 v):=by
 grind [du,dF,cw]
theorem ze(hl:eV B ow pr){i:Nat}{v:Int}(h:ow[i]? =some v):(du B ow pr)[16384+i]? =some (.i v):=by
 grind [du,dF,hl.b,cw]
theorem KP(hl:eV B ow pr){i:Nat}{v:Int}(h:pr[i]? =some v):(du B ow pr)[16640+i]? =some (.i v):=by
 grind [du,dF,hl.b,hl.ow,cw]
theorem KO{i:Nat}(hi:i<J B)(v:Int):(du B ow pr).set i (.int .u8 v)=du (B.set i v) ow pr:=by
 grind [du,dF,eK]
theorem xC(hl:eV B ow pr){i:Nat}(hi:i<256)(v:Int):(du B ow pr).set (16384+i) (.i v)=du B (ow.set i v) pr:=by
 grind [du,dF,hl.b,hl.ow,eK]
def eW(B:Li)(f:Nat):List Int:=B.take (f*64)++R9 64 0++B.drop (f*64+64)
theorem KN(hl:eV B ow pr){f:Nat}(hf:f<256):(du B ow pr).take (f*64)++R9 64 (Value.int .u8 0)++(du B ow pr).drop (f*64+64)=du (eW B f) ow pr:=by
 unfold du eW;have h1:f*64<=J (ints .u8 B):=by rw[dF,hl.b];omega
 have h2:f*64+64<=J (ints .u8 B):=by rw[dF,hl.b];omega
 rw[List.take_append_of_le_length h1,List.drop_append_of_le_length h2,<-aw _ _ (ints .i64 ow++ints .i64 pr)];simp[ints]
theorem yk(hB:J B=16384){f:Nat}(hf:f<256):J (eW B f)=16384:=by
 grind [eW]
theorem Au(hB:J B=16384){f j:Nat}(hf:f<256)(hj:j<64):(eW B f)[f*64+j]? =some 0:=by
 grind [eW]
theorem pV(hB:J B=16384){f i:Nat}(hf:f<256)(hi:i<f*64\/f*64+64<=i):(eW B f)[i]? =B[i]? :=by
 unfold eW;rcases hi with hi|hi
 .grind
 rw[List.getElem?_append_right bZ,List.getElem?_drop]
 grind
end
section
attribute [local irreducible] Ve bN
abbrev ft(bp:Nat)(B ow pr:Li):bJ:=row bp (du B ow pr) 206
theorem fis_ok(n:Int)(w:World):CW prog 104 [.i n] w (.bool (decide (0<=n)&&decide (n<4))):=by
 refine UV func104 ntmps104 ?_;exact WW
theorem P9(n:Int)(w:World):CW prog 268 [.i n] w (.bool (decide (16<=n)&&decide (n<256))):=by
 refine UV func268 ntmps268 ?_;exact WW
theorem Pb(bp:Nat)(B ow pr:Li)(hl:eV B ow pr)(f:Nat)(o:Int)(h1:16<=f)(h2:f<256)(h3:ow[f]? =some o)(h4:o≠ -1)(w:World)(hp:(ft bp B ow pr).ok w):
  CW prog 206 [.p bp,.i f] w (.tuple #[.i o,.bool true]):=by
 refine UV func206 ntmps206 ?_;refine eL ?_;refine UZ (λw hi=>P9 f w) ?_;rw[ap (show(16:Int)<=f by omega),ap (show(f:Int)<256 by omega)];refine UQ ?_;refine ZFb 16384 ?_;refine WV I I (dj (j:=f) (sz:=1) (r:=16384+f) I ir (cO I) (cO I) UL UL O) ?_;refine iX (bR I I) (bO ir (cO I)) (cW hp (ze hl h3)) I (UK ?_);refine cK I ((show(_||(o== -1))=false from by grind)) (US ?_);refine XR 16384 ?_;refine Zy (dj (j:=f) (sz:=1) (r:=16384+f) I ir (Zv I) (Zv I) UL UL O) ?_;refine dZ (bO ir py) (cW hp (ze hl h3)) I (UQ ?_);exact oW
theorem Mb(bp:Nat)(B ow pr:Li)(hl:eV B ow pr)(f a:Nat)(o:Int)(h1:16<=f)(h2:f<256)(h3:ow[f]? =some o)(h4:o≠ -1)(h5:a<64)(w:World)(hp:(ft bp B ow pr).ok w):
  CW prog 157 [.p bp,.i f,.i a] w (.bool true):=by
 refine UV func157 ntmps157 ?_;refine U8 ?_;refine UZ (λw hi=>Pb bp B ow pr hl f o h1 h2 h3 h4 w (bJ.old hp hi)) ?_;refine jS ?_;refine An ?_;refine Wl ?_;rw[ap (show(0:Int)<=a by omega),ap (show(a:Int)<64 by omega)];exact fx
end
end Go.Ink
