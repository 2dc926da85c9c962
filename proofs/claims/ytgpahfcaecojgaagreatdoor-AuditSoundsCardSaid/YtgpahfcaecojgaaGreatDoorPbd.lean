/- Lemmas. -/
import Derived.Test.YtgpahfcaecojgaaGreatDoorPbc
set_option linter.all false
set_option maxRecDepth 100000
set_option maxHeartbeats 4000000
namespace Go.Proofs.YtgpahfcaecojgaaGreatDoor
open Go.RowKit Go.Ink Go.Proofs.Tryz
attribute [local irreducible] OpY bN
structure ImN(l:List BoR)(L:List Im)(J:List bJ):Prop where
 WO:∀x,x∈L->x.WO
 rd:∀w:World,(∀a,a∈l->Rd w .u8 a.B a.k.length a.e a.k)->(bP J).ok w->∀x,x∈L->x.rd w
theorem ImN.snoc{l:List BoR}{L:List Im}{J:List bJ}(h:ImN l L J){a:BoR}(ha:a∈l)(hak:u8s a.k){A:Oa}{c n:Nat}{E:Li}(hE:u8s E)(hn:1<=n/\n<=16):
  ImN l (L++[(⟨A,c,E.take (n*64),a.B,a.e,a.k.take 1024,(n:Int)⟩:Im)]) [sl .u8 5 A E.length c E,bP J]:=by
 refine⟨λx hx=>?_,λw hr hj x hx=>?_⟩
 .rcases az.1 hx with q|q
  .exact h.WO x q
  rw[aC.1 q];exact zf hE hn hak
 have e:∀c',c'∈[sl .u8 5 A E.length c E,bP J]->c'.ok w:=ek hj;rcases az.1 hx with q|q
 .exact h.rd w hr (e _ (.tail _ (.head _))) x q
 exact Wq310
def xH(x:ItR):ItR:=⟨x.kind,dF x.Wq 0 4,bif decide (80<x.n)then dF x.n 0 50 else x.n,x.A,x.c,x.b.take 70⟩
theorem Ra{x:ItR}{w:World}(h:x.okN w):(u8s (xH x).b/\(xH x).b.length<=1000/\ -9223372036854775808<=(xH x).n)/\Rd w .u8 (xH x).A (xH x).b.length (xH x).c (xH x).b:=by
 refine⟨⟨λy hy=>h.o.bs y (aB hy),by show(x.b.take 70).length<=1000;rw[aD];omega,?_⟩,iv h.o.rd 70⟩;show -9223372036854775808<=(bif decide (80<x.n)then dF x.n 0 50 else x.n);cases decide (80<x.n)
 .exact h.n.1
 have:=fU x.n 0 50 bX;show -9223372036854775808<=dF x.n 0 50;omega
end Go.Proofs.YtgpahfcaecojgaaGreatDoor
