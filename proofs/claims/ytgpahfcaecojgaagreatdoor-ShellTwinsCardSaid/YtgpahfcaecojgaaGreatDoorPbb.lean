/- Lemmas. -/
import Derived.Test.YtgpahfcaecojgaaGreatDoorPay
set_option linter.all false
set_option maxRecDepth 100000
set_option maxHeartbeats 4000000
namespace Go.Ink
open Go.RowKit
theorem rJ{w0:World}{S:List Nat}{cs:List bJ}{e sz n c o bb:Nat}{xs vs:List Value}(hc:Has cs (slv e sz (sA bb) n c xs))(hv:∀j v,vs[j]? =some v->xs[o+j]? =some v):∀w,Inv w0 S cs w->cells (ee ⟨bb,o,none⟩ 0 vs) w:=by
 have h:=vt (b:=o) hc hv (w0:=w0) (S:=S);rw[show(Addr.add ⟨bb,0,none⟩ o)=⟨bb,o,none⟩from by simp[Addr.add_lit]]at h;exact h
end Go.Ink
namespace Go.Proofs.YtgpahfcaecojgaaGreatDoor
open Go.RowKit Go.Ink Go.Proofs.Tryz
attribute [local irreducible] OpY bN
abbrev ouC(b c:Nat)(o:Ou)(Y:VAd):bJ:=slv 107 25 (sA b) 1 c (o.cells Y)
theorem Ic(bm:Nat)(m:Mon)(k:Nat)(hm:m.ok k)(hk:k<=800000000)(x:ItR)(hb:u8s x.b)(hbl:x.b.length<=9223372036854775807)(hn: -9223372036854775808<=x.n)(B:Oa)(d:Nat)(w:World)(hi:Inv w (bK (eE bm m)) (eE bm m) w)(hA:∀w',dc (bK (eE bm m)) w w'->RdV w' 4 B 1 d x.cells)(hB:∀w',dc (bK (eE bm m)) w w'->Rd w' .u8 x.A x.b.length x.c x.b)(ht:∀w',dc (bK (eE bm m)) w w'->fc w'):
  Ctr prog 33 [.p bm,.slice B 1 d] w (eE bm m) (λv cs=>∃m' Y bz c' J,(m'.ok (k+80000)/\m'.l=(eN m.l x.it).1/\∀w,(bP J).ok w->oV w (eN m.l x.it).2.v Y)/\v= .slice (sA bz) 1 c'/\cs=ouC bz c' (eN m.l x.it).2 Y::bP J::eE bm m'):=by
 have h1:Inv w (bK (eE bm m)) (eE bm m++[]) w:=by rw[aw];exact hi
 refine Ctr.via h1 (λhi2=>NW bm m k hm [x] (by show k+80000*1<=_;omega) B d (λy hy=>by rw[aC.1 hy];exact⟨hb,hbl,hn⟩) w hi2 (λw' hk=>hA w' hk) (λw' hk y hy=>by rw[aC.1 hy];exact hB w' hk) ht) ?_;rintro v cout w' ⟨m',Z,A',c',J,⟨h1,h2,h3,h4⟩,rfl,rfl⟩ hi3;rw[aw]at hi3;obtain⟨⟨o,Y⟩,rfl,ho⟩:=N7 (a:=(eN m.l x.it).2) h3;dsimp only at ho;subst ho;obtain⟨bz,rfl⟩:=dV (hi3.ok _ (.head _)) (by show 0<1;omega);exact⟨_,⟨m',Y,bz,c',J,⟨h1.le (by show k+80000*1<=_;omega),h2,λw hj=>h4 w hj _ (.head _)⟩,rfl,rfl⟩,hi3⟩
theorem NX(bm:Nat)(m:Mon)(k:Nat)(hm:m.ok k)(hk:k<=800000000)(x:ItR)(hb:u8s x.b)(hbl:x.b.length<=1000)(hn: -9223372036854775808<=x.n)(B:Oa)(d:Nat)(w:World)(hi:Inv w (bK (eE bm m)) (eE bm m) w)(hA:∀w',dc (bK (eE bm m)) w w'->RdV w' 4 B 1 d x.cells)(hB:∀w',dc (bK (eE bm m)) w w'->Rd w' .u8 x.A x.b.length x.c x.b)(ht:∀w',dc (bK (eE bm m)) w w'->fc w'):
  Ctr prog 33 [.p bm,.slice B 1 d] w (eE bm m) (λv cs=>∃m' Y bz c' J,(m'.ok (k+80000)/\m'.l=(eN m.l x.it).1/\∀w,(bP J).ok w->oV w (eN m.l x.it).2.v Y)/\v= .slice (sA bz) 1 c'/\cs=ouC bz c' (eN m.l x.it).2 Y::bP J::eE bm m'):=
 Ic bm m k hm hk x hb (aK hbl bX) hn B d w hi hA hB ht
end Go.Proofs.YtgpahfcaecojgaaGreatDoor
