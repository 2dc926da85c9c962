/- Lemmas. -/
import Derived.Test.YtepfimeihngjoaaGreatDoorYbi
set_option linter.all false
set_option maxRecDepth 100000
set_option maxHeartbeats 4000000
namespace Go.Ink
open List renaming length→J, replicate→R9
open IntKind renaming wrap→V9
open Go.RowKit Go.Proofs.Tryz
variable{d:Un}{c:Int}
variable{x k:Nat}
section
attribute [local irreducible] UL bM
variable{n:Nat}{s:St}{U:Uo}
variable{o:Nat}
set_option maxRecDepth 100000 in
theorem Ko{W:World}{es:List Value}(h:VS prog W 111 es):∃a:D6,es=a.cells/\a.ok W:=by
 obtain⟨hl,hf⟩:=h.struct I;have hl:J es=4:=hl
 match es,hl with
 |[c0,c1,c2,c3],_=>
  have k0:VS prog W _ [c0]:=hf 0 _ I;have k1:VS prog W _ [c1]:=hf 1 _ I;have k2:VS prog W _ [c2]:=hf 2 _ I;have k3:VS prog W _ [c3]:=hf 3 _ I;obtain⟨n0,rfl,m0⟩:=Xj I k0;obtain⟨n1,rfl,m1⟩:=Xj I k1;obtain⟨n2,rfl,m2⟩:=Xj I k2;obtain⟨A3,d3,x3,e3,r3,b3,z3⟩:=k3.ints (e:=5) (k:= .u8) I I I;obtain rfl:c3=_:=by simpa using e3
  exact⟨⟨n0,n1,n2,A3,d3,x3⟩,I,⟨r3,λx hx=>Yb (z3 x hx),zx m2⟩⟩
set_option maxRecDepth 100000 in
theorem G5{W:World}{v:Value}(h:zp prog W 108 v):∃(A:Oa) (c:Nat) (l:List D6),v= .slice A (J l) c/\UJ W 4 A (J l) c (l.flatMap D6.cells)/\∀a,a∈l->a.ok W:=by
 obtain⟨A,c,xs,h1,h2,h3,h4⟩:=zp.rows (e:=111) I I D6.S6 ⟨0,0,0,none,0,[]⟩ (λes he=>Ko he) h;exact⟨A,c,xs,h1,h2,h3⟩
abbrev dvY(R:vJ)(n:Nat)(X:eN)(Z:fv):ν:=⟨X,some ⟨R.K.bB,0,none⟩,n*64,Z.Ao,Z.co,Z.Ai,Z.ci,some ⟨R.bd,0,none⟩,1024⟩
abbrev XH(s:St)(U:Uo)(d:Un):Vw:=⟨s,U.m.data,d.out,d.inp,d.SV,d.SU,d.mask,false⟩
theorem B2.view{H:mY}{n o:Nat}{s:St}{X:eN}{Y:fv}{Ug U:Uo}{d:Un}{og:Option Vk}(h:B2 H n o ⟨s,X,Y,Ug,d,og⟩ U):Vy.view ⟨s,X,Y,Ug,d,og⟩=XH s U d/\(XH s U d).wf:=by
 have e:Vy.view ⟨s,X,Y,Ug,d,og⟩=XH s U d:=by show(⟨s,Ug.m.data,d.out,d.inp,d.SV,d.SU,d.mask,false⟩:Vw)=_;rw[show Ug.m.data=U.m.data from h.e.d]
 exact⟨e,e▸h.ok.view h.sd⟩
end
end Go.Ink
