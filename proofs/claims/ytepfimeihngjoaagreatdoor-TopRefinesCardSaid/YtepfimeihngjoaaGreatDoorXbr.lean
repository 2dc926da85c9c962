/- Lemmas. -/
import Derived.Test.YtepfimeihngjoaaGreatDoorXbg
import Derived.Test.YtepfimeihngjoaaGreatDoorXbh
import Derived.Test.YtepfimeihngjoaaGreatDoorXbi
set_option linter.all false
set_option maxRecDepth 100000
set_option maxHeartbeats 4000000
namespace Go.Ink
open List renaming length→J, replicate→R9
open IntKind renaming wrap→V9
open Go.RowKit Go.Proofs.Tryz
variable{k:Nat}
section
attribute [local irreducible] Ve bN
variable{n:Nat}
variable{s:St}{U:UI}{d:UF}
theorem oB(h:VN n s U d)(hi:VO d)(k:Nat):VN n s U (d.raise k)/\VO (d.raise k):=
 ⟨⟨h.wf,h.right,h.u,⟨h.dv.wf.re rfl rfl rfl rfl,dY .or d.S7 _,h.dv.mask,h.dv.timer,h.dv.status⟩,⟨h.lines.mask⟩⟩,⟨hi.i64⟩⟩
end
end Go.Ink
namespace Go.Ink
open List renaming length→J, replicate→R9
open IntKind renaming wrap→V9
open Go.RowKit Go.Proofs.Tryz
variable{n k:Nat}{s:St}{U:UI}{d:UF}
section
attribute [local irreducible] Ve bN
variable{o:Nat}
theorem WQ.raise{n o:Nat}{s:St}{U:UI}{d:UF}(h:WQ n o s U d)(k:Nat):WQ n o s U (d.raise k):=⟨(oB h.g h.i k).1,h.m,(oB h.g h.i k).2,h.o⟩
end
end Go.Ink
namespace Go.Proofs.YtepfimeihngjoaaGreatDoor
open List renaming length→J, replicate→R9
open IntKind renaming wrap→V9
open Go.RowKit Go.Ink Go.Proofs.Tryz
attribute [local irreducible] Ve bN
theorem LG(s t:St)(Ad Ar Bd Br:Oa)(cd cr ed er:Nat)(w:World)(h:iL w s Ad Ar cd cr)(h2:iL w t Bd Br ed er):
  CW prog 29 [sv s Ad cd Ar cr,sv t Bd ed Br er] w (.bool (s.Uh t)):=by
 have HS:=Fp s t Ad Ar Bd Br cd cr ed er;refine UV func29 ntmps29 ?_;refine An ?_;refine ZO λb2=>?_;refine ZO λb3=>?_
 exact Wq422
end Go.Proofs.YtepfimeihngjoaaGreatDoor
namespace Go.Ink
open List renaming length→J, replicate→R9
open IntKind renaming wrap→V9
open Go.RowKit
theorem Inv.okS{w0 w:World}{S:List Nat}{cs cin rest:List bJ}(h:Inv w0 S cs w)(hp:ik cin cs rest):∀c,c∈cin->c.ok w:=λc hc=>h.ok c (hp.perm.symm.subset (List.mem_append_left _ hc))
end Go.Ink
namespace Go.Proofs.YtepfimeihngjoaaGreatDoor
open List renaming length→J, replicate→R9
open IntKind renaming wrap→V9
open Go.RowKit Go.Ink Go.Proofs.Tryz
attribute [local irreducible] Ve bN
structure wy where
 bg:Nat
 K:gi
 bx:Nat
 by_:Nat
 bd:Nat
end Go.Proofs.YtepfimeihngjoaaGreatDoor
namespace Go.Proofs.YtepfimeihngjoaaGreatDoor
open List renaming length→J, replicate→R9
open IntKind renaming wrap→V9
open Go.RowKit Go.Ink Go.Proofs.Tryz
attribute [local irreducible] Ve bN
abbrev dbRow(R:wy)(Y:dJ)(d:UF):bJ:=row R.by_ [.p R.K.bm,.w d.S7,.w d.mask,.w d.timer,.slice Y.Ao (J d.out) Y.co,.slice Y.Ai (J d.inp) Y.ci,.slice (sA R.bd) 1024 1024,.w (d.SS:Int),.w (d.place:Int),.w d.status] 103
abbrev dmRow(R:wy)(n:Nat):bJ:=row R.K.bm [.slice (sA R.K.bB) (n*64) (n*64),.slice (sA R.K.bT) n n] 89
end Go.Proofs.YtepfimeihngjoaaGreatDoor
namespace Go.Ink
open List renaming length→J, replicate→R9
open IntKind renaming wrap→V9
open Go.RowKit
def UF.said(d:UF):Prop:=Vh d.out
section
variable{n:Nat}{s:St}{U:UI}{d:UF}{R:UG}
theorem Cn(h:d.said)(k count:Int):(cE d k count).2.said:=by
 unfold cE
 repeat (first|exact h|refine bL (λq:(Int×Bool)×UF=>q.2.said) ?_ ?_)
theorem Lu(h:d.said)(va:Nat):(eP n R U d va).d.said:=by
 unfold eP;refine bL (λm:eu=>m.d.said) h ?_;exact bL (λm:eu=>m.d.said) (Cn h _ _) h
theorem AI(h:d.said)(c:Int):(d.tick c).said:=by
 unfold UF.tick;exact bL UF.said h h
theorem x7(h:d.said):(cI n s U d).d.said:=by
 unfold cI;refine bL (λb:w8=>b.d.said) h ?_;unfold lI;exact bL (λb:w8=>b.d.said) (AI h _) (AI h _)
theorem LV(k:Li):(UF.init k).said:=λx hx=>by cases hx
end
end Go.Ink
namespace Go.Proofs.YtepfimeihngjoaaGreatDoor
open List renaming length→J, replicate→R9
open IntKind renaming wrap→V9
open Go.RowKit Go.Ink Go.Proofs.Tryz
structure Ag where
 n:Nat
 s:St
 U:UI
 d:UF
 dead:Bool
structure ItR where
 kind:Int
 TO:Int
 n:Int
 A:Option Addr
 c:Nat
 b:List Int
end Go.Proofs.YtepfimeihngjoaaGreatDoor
namespace Go.Ink
open List renaming length→J, replicate→R9
open IntKind renaming wrap→V9
open Go.RowKit
theorem mw.flush{E:Vy}(h:mw E)(ml:Nat)(fl:Int):mw ⟨E.bc,E.mr,E.room,⟨ml,none,0,fl,[],[]⟩,[],E.last,E.Ti,E.Tk,E.begun⟩:=
 ⟨pU.none h.ca.rm _ _ _ _,h.eg.flush,(λy hy=>nomatch hy),h.last⟩
end Go.Ink
namespace Go.Proofs.YtepfimeihngjoaaGreatDoor
open List renaming length→J, replicate→R9
open IntKind renaming wrap→V9
open Go.RowKit Go.Ink Go.Proofs.Tryz
attribute [local irreducible] Ve bN
theorem Eb(b:Nat)(A:Oa)(c:Nat)(n:Int)(hn:n<0\/8<=n)(w:World)(h:Rd w .i64 A 1 c [n]):CW prog 62 [.p b,.slice A 1 c] w (.bool false):=by
 obtain⟨ad,rfl⟩:=h.some_ O;refine UV func62 ntmps62 ?_;refine Jm ?_;refine Vs (λ_:Unit=>[(0,.p b),(5,.w 0),(8,.slice (some ad) 1 c),(9,.i 1),(10,.i 0)]) (λ_=>[]) (λ_=>True) (λ_=>0) (()) gh ?_;rintro - -;refine UU ?_;refine iS ?_;refine UU ?_;refine Zy (cZ (j:=0) I ir (Zv I) (Zv I) UL UL) ?_;refine dZ (bO ir py) (dK h I) I (kF ?_);refine bY I (bZ) (fR ?_);exact wQ
structure uh where
 kd:Int
 n:Int
 at_:Int
 B:Option Addr
 cb:Nat
 bs:List Int
abbrev g0S:dz:=⟨none,0,none,0⟩
abbrev g0D:dJ:=⟨none,0,none,0⟩
end Go.Proofs.YtepfimeihngjoaaGreatDoor
namespace Go.Ink
open List renaming length→J, replicate→R9
open Go.RowKit
abbrev YG:List (Int×Int):=[(2,72),(2,32784),(49,0),(69,0)]
theorem Gl:g9 YG=[2,72,0,0,0,2,16,128,0,0,49,69]:=by decide
def Sj(q:St×UI×UF):Bool:=q.1.halted&&(q.1.count==4)&&(q.2.2.out==[72])
end Go.Ink
namespace Go.Proofs.YtepfimeihngjoaaGreatDoor
open List renaming length→J, replicate→R9
open Go.RowKit Go.Ink Go.Proofs.Tryz
attribute [local irreducible] Ve bN
theorem JW(n:Int)(w:World):CW prog 79 [.w n] w (.agg #[.i 2,.w n]):=by
 refine UV func79 ntmps79 ?_;exact YN
theorem RX(n:Int)(w:World):CW prog 80 [.i n] w (.agg #[.i n,.w 0]):=by
 refine UV func80 ntmps80 ?_;exact YN
end Go.Proofs.YtepfimeihngjoaaGreatDoor
