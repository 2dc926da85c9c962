/- Lemmas. -/
import Derived.Test.YtgpahfcaecojgaaGreatDoorPbh
set_option linter.all false
set_option maxRecDepth 100000
set_option maxHeartbeats 4000000
namespace Go.Proofs.YtgpahfcaecojgaaGreatDoor
open Go.RowKit Go.Ink Go.Proofs.Tryz
attribute [local irreducible] OpY bN
def TX(p:Int)(f:Int->Int)(x:ItR):ItR:=⟨x.kind,x.Wq,bif decide (p<x.n)then f x.n else x.n,x.A,x.c,x.b⟩
def mix(F:ItR->ItR)(T:List ItR)(j:Nat):List ItR:=(T.take j).map F++T.drop j
variable{F:ItR->ItR}{T:List ItR}{j:Nat}{x:ItR}
theorem Bf(h:T[j]? =some x):(mix F T j)[j]? =some x:=by
 have hl:=(ar.1 h).1;unfold mix;rw[List.getElem?_append_right yq,ax,aD,List.getElem?_drop,show j+(j - min j T.length)=j by omega];exact h
theorem Bc(h:T[j]? =some x):(mix F T j).set j (F x)=mix F T (j+1):=by
 obtain⟨hl,hx⟩:=ar.1 h;unfold mix;rw[List.set_append_right _ _ yq,ax,aD,Nat.min_eq_left Wq1,Nat.sub_self,List.drop_eq_getElem_cons hl,List.set_cons_zero,bE,h,List.map_append,aq]
 rfl
theorem Be(h:T[j]? =some x)(e:F x=x):mix F T j=mix F T (j+1):=by
 rw[<-Bc h,e,Fh (Bf h)]
theorem FO(h:T.length<=j):mix F T j=T.map F:=by
 unfold mix;rw[aM h,List.drop_eq_nil_of_le h,aw]
variable{p:Int}{f:Int->Int}
theorem Gr(h:¬p<x.n):TX p f x=x:=by
 unfold TX;rw[aF h]
 rfl
theorem BP{kd g n:Int}{A:Oa}{c:Nat}{b:Li}(h:p<n):TX p f ⟨kd,g,n,A,c,b⟩=⟨kd,g,f n,A,c,b⟩:=by
 unfold TX;dsimp only;rw[aE h]
 rfl
theorem BQ(hf:∀n, -9223372036854775808<=f n){T:List ItR}(h:∀x,x∈T->u8s x.b/\x.b.length<=1000/\ -9223372036854775808<=x.n):∀x,x∈T.map (TX p f)->u8s x.b/\x.b.length<=1000/\ -9223372036854775808<=x.n:=λx hx=>by
 obtain⟨y,hy,rfl⟩:=aZ.1 hx;obtain⟨h1,h2,h3⟩:=h y hy;refine⟨h1,h2,?_⟩;show -9223372036854775808<=(bif decide (p<y.n)then f y.n else y.n);cases decide (p<y.n)
 .exact h3
 exact hf _
theorem Gq{w:World}(h:∀x,x∈T->Rd w .u8 x.A x.b.length x.c x.b):∀x,x∈T.map (TX p f)->Rd w .u8 x.A x.b.length x.c x.b:=λx hx=>by
 obtain⟨y,hy,rfl⟩:=aZ.1 hx;exact h y hy
theorem Ck(n b:Int)(hb:0<=b): -9223372036854775808<=dF n 0 b:=by
 have:=fU n 0 b hb;omega
theorem Dz{its:List ItR}{w:World}(h:∀x,x∈its->x.okN w):∀x,x∈iT its->u8s x.b/\x.b.length<=1000/\ -9223372036854775808<=x.n:=λx hx=>by
 obtain⟨y,hy,rfl⟩:=aZ.1 hx;have h1:=h y (aB hy);exact⟨λz hz=>h1.o.bs z (aB hz),by show(y.b.take 300).length<=1000;rw[aD];omega,h1.n.1⟩
theorem zg{l:List Bo4}{L:List Im}{J:List bJ}(h:ImX l L J):∀x,x∈L->u8s x.l/\u8s x.k/\x.l.length<=4611686018427387904:=λx hx=>⟨(h.b x hx).1,(h.b x hx).2.1,aK (h.b x hx).2.2.1 bX⟩
variable{I:List Si}{T:List It}
theorem Nb:(Kc I T).length<=I.length:=by
 by_cases h:kg I=0
 .exact Nat.le_of_eq (uy h)
 rw[(Hp h).2];exact ap _
theorem _root_.Go.Ink.fN.ok.zwf{R:fN}(h:R.ok I T):∀z,z∈R.Z->z.o.v.wf:=λz hz=>h.zw z.o (by rw[<-h.z];exact aZ.2 ⟨z,hz,rfl⟩)
theorem _root_.Go.Ink.fN.ok.vwf{R:fN}(h:R.ok I T):∀v,v∈R.V->v.v.wf:=λv hv=>h.vw v.v (by rw[<-h.v];exact aZ.2 ⟨v,hv,rfl⟩)
abbrev itM(B:Oa)(e n:Nat)(T:List ItR):bJ:=slv 41 4 B n e (T.flatMap ItR.cells)
end Go.Proofs.YtgpahfcaecojgaaGreatDoor
