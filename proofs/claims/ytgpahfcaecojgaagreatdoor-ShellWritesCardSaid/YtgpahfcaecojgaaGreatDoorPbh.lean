/- Lemmas. -/
import Derived.Test.YtgpahfcaecojgaaGreatDoorPaz
set_option linter.all false
set_option maxRecDepth 100000
set_option maxHeartbeats 4000000
namespace Go.Proofs.YtgpahfcaecojgaaGreatDoor
open Go.RowKit Go.Ink Go.Proofs.Tryz
structure PI where
 n:Nat
 L:List Im
 A:Option Addr
 c:Nat
 J:List bJ
 k:Nat
 bd:Bool
structure PI.ok(q:PI)(bs:Li)(I:List Si)(R:Option (List Int)):Prop where
 g:q.bd=false->q.L.map Im.si++(pW q.n (bs.drop q.k)).1=I/\(pW q.n (bs.drop q.k)).2=R
 t:q.bd=true->q.L.map Im.si=I/\R=none
 k:q.k<=bs.length
 j:ImJ q.J q.L
 lb:∀x,x∈q.L->u8s x.l/\u8s x.k/\x.l.length<=65535/\x.k.length<=65535
 n4:q.L.length+q.n<=4
structure PT where
 T:List ItR
 A:Option Addr
 c:Nat
 K:List bJ
 k:Nat
 bd:Bool
structure PT.ok(q:PT)(bs:Li)(T:List It):Prop where
 g:q.bd=false->q.T.map ItR.it++BJ (512 - q.T.length) (bs.drop q.k)=T
 t:q.bd=true->q.T.map ItR.it=T
 n:q.T.length<=512
 k:q.k<=bs.length
 j:ItJ q.K q.T
 tb:∀x,x∈q.T->u8s x.b/\x.b.length<=255/\0<=x.n
variable{n:Nat}{L:List Im}{A:Oa}{c:Nat}{J:List bJ}{k:Nat}{bs:Li}{I:List Si}{R:Option (List Int)}
theorem PI.ok.go(h:PI.ok ⟨n+1,L,A,c,J,k,false⟩ bs I R){x:Im}{k2:Nat}(hk:k2<=bs.length)(h1:xI (bs.drop k)=some (x.si,bs.drop k2)){A2:Oa}{c2:Nat}{K:List bJ}(hx:∀w,(bP K).ok w->x.rd w)(hb:u8s x.l/\u8s x.k/\x.l.length<=65535/\x.k.length<=65535):PI.ok ⟨n,L++[x],A2,c2,[bP K,bP J],k2,false⟩ bs I R:=by
 obtain⟨hi,hr⟩:=h.g rfl;have h4:=h.n4;dsimp only at hi hr h4;rw[PP h1]at hi hr;refine⟨λ_=>⟨?_,hr⟩,λq=>(by cases q),hk,h.j.snoc hx,λy hy=>?_,?_⟩
 .show(L++[x]).map Im.si++(pW n (bs.drop k2)).1=I;rw[<-hi,List.map_append,aq]
  rfl
 .rcases az.1 hy with q|q
  .exact h.lb y q
  rw[aC.1 q];exact hb
 show(L++[x]).length+n<=4;rw[aj];show L.length+1+n<=4;omega
theorem PI.ok.no(h:PI.ok ⟨n+1,L,A,c,J,k,false⟩ bs I R){k2:Nat}(hk:k2<=bs.length)(h1:xI (bs.drop k)=none):PI.ok ⟨n,L,A,c,J,k2,true⟩ bs I R:=by
 obtain⟨hi,hr⟩:=h.g rfl;have h4:=h.n4;dsimp only at hi hr h4;rw[PO h1]at hi hr;rw[aw]at hi;exact⟨λq=>(by cases q),λ_=>⟨hi,hr.symm⟩,hk,h.j,h.lb,by show L.length+n<=4;omega⟩
variable{T:List It}
theorem PT.ok.stop{q:PT}(h:q.ok bs T)(h1:bs.drop q.k=[]\/q.T.length=512\/q.bd=true):q.T.map ItR.it=T:=by
 cases hb:q.bd with
 |true=>exact h.t hb
 |false=>
  have ht:=h.g hb;rcases h1 with e|e|e
  .rw[e,I0,aw]at ht;exact ht
  .rw[e,Nat.sub_self,Ed,aw]at ht;exact ht
  rw[hb]at e;cases e
variable{T1:List ItR}{K:List bJ}
theorem PT.ok.no(h:PT.ok ⟨T1,A,c,K,k,false⟩ bs T){kd:Int}{r:Li}(hl:bs.drop k=kd::r)(hn:T1.length<512)(hk:¬(kd<1\/6<kd))(h1:rq kd r=none){k2:Nat}(hk2:k2<=bs.length):PT.ok ⟨T1,A,c,K,k2,true⟩ bs T:=by
 have ht:=h.g rfl;dsimp only at ht;rw[hl,show 512 - T1.length=(511 - T1.length)+1 by omega,PK hk h1,aw]at ht;exact⟨λq=>(by cases q),λ_=>ht,h.n,hk2,h.j,h.tb⟩
theorem PT.ok.skip(h:PT.ok ⟨T1,A,c,K,k,false⟩ bs T){kd:Int}{k2:Nat}(hl:bs.drop k=kd::bs.drop k2)(hn:T1.length<512)(hk:kd<1\/6<kd)(hk2:k2<=bs.length):PT.ok ⟨T1,A,c,K,k2,false⟩ bs T:=by
 have ht:=h.g rfl;dsimp only at ht;rw[hl,show 512 - T1.length=(511 - T1.length)+1 by omega,Ee hk]at ht;refine⟨λ_=>?_,λq=>(by cases q),h.n,hk2,h.j,h.tb⟩;show T1.map ItR.it++BJ (512 - T1.length) (bs.drop k2)=T;rw[show 512 - T1.length=(511 - T1.length)+1 by omega];exact ht
theorem PT.ok.go(h:PT.ok ⟨T1,A,c,K,k,false⟩ bs T){kd:Int}{r:Li}(hl:bs.drop k=kd::r)(hn:T1.length<512)(hk:¬(kd<1\/6<kd)){x:ItR}{k2:Nat}(h1:rq kd r=some (x.it,bs.drop k2))(hk2:k2<=bs.length){A2:Oa}{c2:Nat}{M:List bJ}(hx:∀w,(bP M).ok w->Rd w .u8 x.A x.b.length x.c x.b)(hb:u8s x.b/\x.b.length<=255/\0<=x.n):PT.ok ⟨T1++[x],A2,c2,[bP M,bP K],k2,false⟩ bs T:=by
 have ht:=h.g rfl;dsimp only at ht;rw[hl,show 512 - T1.length=(511 - T1.length)+1 by omega,PL hk h1]at ht;refine⟨λ_=>?_,λq=>(by cases q),by show(T1++[x]).length<=512;rw[aj];show T1.length+1<=512;omega,hk2,h.j.snoc hx,λy hy=>?_⟩
 .show(T1++[x]).map ItR.it++BJ (512 - (T1++[x]).length) (bs.drop k2)=T;refine Wq496 ?_
  rfl
 rcases az.1 hy with q|q
 .exact h.tb y q
 rw[aC.1 q];exact hb
theorem vZ{l l2:Li}{b b2:Bool}{x:Int}(h:oX n (l,b)=(x,(l2,b2))):l2.length<=l.length:=by
 unfold oX at h;split at h<;>cases h
 .rw[bH];exact Nat.sub_le _ _
 exact aL _
theorem Rq{l l2 x:Li}{b b2:Bool}(h:kB n (l,b)=(x,(l2,b2))):l2.length<=l.length:=by
 unfold kB at h;split at h<;>cases h
 .rw[bH];exact Nat.sub_le _ _
 exact aL _
theorem Fx(bs:Li):∃x0 k0 bd0 I R T,oX 1 (bs,false)=(x0,(bs.drop k0,bd0))/\Eg bs=(I,T)/\(match R with|none=>[]|some r2=>BJ 512 r2)=T/\PI.ok ⟨min x0.toNat 4,[],none,0,[],k0,bd0⟩ bs I R:=by
 match bs with
 |[]=>exact⟨0,0,true,[],none,[],rfl,rfl,rfl,⟨λq=>(by cases q),λ_=>⟨rfl,rfl⟩,aL _,λw _ x hx=>jT,λx hx=>jT,by decide⟩⟩
 |x0::r=>
  refine⟨x0,1,false,(pW (min x0.toNat 4) r).1,(pW (min x0.toNat 4) r).2,_,rfl,Ef,rfl,⟨λ_=>⟨rfl,rfl⟩,λq=>(by cases q),by show 1<=r.length+1;omega,λw _ x hx=>jT,λx hx=>jT,?_⟩⟩;show 0+min x0.toNat 4<=4;omega
end Go.Proofs.YtgpahfcaecojgaaGreatDoor
