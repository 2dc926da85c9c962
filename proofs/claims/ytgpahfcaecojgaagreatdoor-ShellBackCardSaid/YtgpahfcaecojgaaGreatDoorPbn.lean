/- Lemmas. -/
import Derived.Test.YtgpahfcaecojgaaGreatDoorPbh
import Derived.Test.YtgpahfcaecojgaaGreatDoorPbk
set_option linter.all false
set_option maxRecDepth 100000
set_option maxHeartbeats 4000000
namespace Go.Proofs.YtgpahfcaecojgaaGreatDoor
open Go.RowKit Go.Ink Go.Proofs.Tryz
attribute [local irreducible] OpY bN
theorem FW(n:Int):0<=lo n/\lo n<=255:=by unfold lo;omega
theorem VM(n:Int):0<=hi8 n/\hi8 n<=255:=by unfold hi8;omega
theorem mN{x:Int}{l:Li}(hx:0<=x/\x<=255)(h:u8s l):u8s (x::l):=λy hy=>by
 rcases aJ.1 hy with rfl|q
 .exact hx
 exact h y q
theorem Jj{l m:Li}(h:u8s l)(h2:u8s m):u8s (l++m):=λy hy=>(az.1 hy).elim (h y) (h2 y)
theorem Pu{x:Li}(h:u8s x):u8s (mK x):=mN (FW _) (mN (VM _) h)
theorem encT_u8{x:It}(h:u8s x.b):u8s (kN x):=by
 refine mN (FW _) (mN (FW _) (Jj ?_ ?_))
 .cases kX x.kind
  .exact fa
  exact mN (FW _) (mN (VM _) fa)
 cases x.kind==2
 .exact fa
 exact mN (FW _) h
theorem BE{I:List Si}{T:List It}(hI:∀x,x∈I->u8s x.l/\u8s x.k)(hT:∀x,x∈T->u8s x.b):u8s (pV I T):=by
 refine mN (FW _) (Jj (λy hy=>?_) (λy hy=>?_))
 .obtain⟨x,hx,hy⟩:=List.mem_flatMap.1 hy;exact mN (FW _) (Jj (Pu (hI x hx).1) (Pu (hI x hx).2)) y hy
 obtain⟨x,hx,hy⟩:=List.mem_flatMap.1 hy;exact encT_u8 (hT x hx) y hy
theorem IX{I:List Si}{T:List It}(h:fC I T=0):1<=(pV I T).length/\(pV I T).length<=657421:=by
 obtain⟨h1,h2,h3,h4⟩:=ja h;have:=AR (T:=T) (j:=T.length) h1 h2 h3 (by rw[bC];exact h4);rw[AS (aL _)]at this;exact⟨Nat.succ_le_succ (ap _),this⟩
theorem u8w(n:Int):0<=IntKind.u8.wrap n/\IntKind.u8.wrap n<=255:=by rw[IntKind.wrap_u8];omega
theorem set_u8{l:Li}{i:Nat}{v:Int}(h:u8s l)(hv:0<=v/\v<=255):u8s (l.set i v):=λy hy=>by
 rcases List.mem_or_eq_of_mem_set hy with q|rfl
 .exact h y q
 exact hv
theorem bits_u8(o:BinOp)(x y:Int):0<=bits o .u8 x y/\bits o .u8 x y<=255:=u8w _
theorem F5{l:List Bo4}{L:List Im}{J:List bJ}(h:ImX l L J):∀x,x∈L.map Im.si->u8s x.l/\u8s x.k:=λx hx=>by
 obtain⟨y,hy,rfl⟩:=aZ.1 hx;exact⟨(h.b y hy).1,(h.b y hy).2.1⟩
theorem OB{its:List ItR}{w:World}(h:∀x,x∈iT its->x.ok w/\x.b.length<=300):∀x,x∈(iT its).map ItR.it->u8s x.b:=λx hx=>by
 obtain⟨y,hy,rfl⟩:=aZ.1 hx;exact(h y hy).1.bs
end Go.Proofs.YtgpahfcaecojgaaGreatDoor
