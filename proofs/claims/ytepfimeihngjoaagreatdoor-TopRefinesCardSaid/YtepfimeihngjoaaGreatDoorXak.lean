/- Lemmas. -/
import Derived.Test.YtepfimeihngjoaaGreatDoorXae
import Derived.Test.YtepfimeihngjoaaGreatDoorXag
set_option linter.all false
set_option maxRecDepth 100000
set_option maxHeartbeats 4000000
namespace Go.Ink
open List renaming length→J
open Go.RowKit
section
open Go.ChangeShapes Go.WideShapes
variable{P:Program}{w:World}{t:TypeId}{v:Value}
theorem tK.rows{α:Type}{e:TypeId}{sz:Nat}{f:α->List Value}{Q:α->Prop}(ht:P.underlying t=some (.slice e))(hc:P.cellsOf e=sz)(hf:∀a,J (f a)=sz)(a0:α)
  (ho:∀es,VE P w e es->∃a,es=f a/\Q a) (h:tK P w t v):
  ∃(A:Oa) (c:Nat) (xs:List α),v= .slice A (J xs) c/\U5 w sz A (J xs) c (xs.flatMap f)/\(∀x,x∈xs->Q x)/\c*P.bytesOf e<=140737488351232:=by
 obtain⟨⟨r,b,hk⟩,h⟩:=h;obtain⟨a,l,c,rfl⟩:=okWide_slice ht hk;obtain⟨A,c',xs,h1,h2⟩:=h.rows ht hc hf a0 ho;simp[Value.cells]at h1;obtain⟨rfl,rfl,rfl⟩:=h1;exact⟨_,_,_,I,h2⟩
end
end Go.Ink
