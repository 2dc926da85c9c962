/- Lemmas. -/
import Derived.Test.YtepfimeihngjoaaGreatDoorXbq
import Derived.Test.YtepfimeihngjoaaGreatDoorXbr
set_option linter.all false
set_option maxRecDepth 100000
set_option maxHeartbeats 4000000
namespace Go.Proofs.YtepfimeihngjoaaGreatDoor
open List renaming length→J, replicate→R9
open IntKind renaming wrap→V9
open Go.RowKit Go.Ink Go.Proofs.Tryz
attribute [local irreducible] Ve bN
abbrev vv(v:Vw)(Y:VAd):Value:= .agg (v.cells Y).toArray
structure Vw.wf(v:Vw):Prop where
 s:v.s.wf
 m:Vh v.m
 o:Vh v.o
 i:Vh v.i
 k:Vh v.k
structure RdVw(w:World)(v:Vw)(Y:VAd):Prop where
 s:iL w v.s Y.X.Ad Y.X.Ar Y.X.cd Y.X.cr
 m:Rd w .u8 Y.Am (J v.m) Y.cm v.m
 o:Rd w .u8 Y.Ao (J v.o) Y.co v.o
 i:Rd w .u8 Y.Ai (J v.i) Y.ci v.i
 k:Rd w .u8 Y.Ak (J v.k) Y.ck v.k
theorem zt(a b:Vw)(Y Z:VAd)(ha:a.wf)(hb:b.wf)(w:World)(h:RdVw w a Y)(h2:RdVw w b Z):
  UW prog 19 [vv a Y,vv b Z] w [] (λv cs=>(∃r,v= .bool r/\(r=true<->a=b))/\cs=[]):=by
 refine UV func19 ntmps19 ?_;refine An ?_;refine ZO λb2=>?_;refine ZO λb3=>?_
 refine UU ?_;refine dZ (bX (vs:=a.s.cells (.slice Y.X.Ad (J a.s.d) Y.X.cd) (.slice Y.X.Ar (J a.s.r) Y.X.cr)) ir ir py) (cq (o:=0) Zh I) I (Wv ?_);refine dZ (bX (vs:=b.s.cells (.slice Z.X.Ad (J b.s.d) Z.X.cd) (.slice Z.X.Ar (J b.s.r) Z.X.cr)) ir ir py) (cq (o:=0) Zh I) I (UZ (λw hi=>LG a.s b.s Y.X.Ad Y.X.Ar Z.X.Ad Z.X.Ar Y.X.cd Y.X.cr Z.X.cd Z.X.cr w (h.s.Tb hi) (h2.s.Tb hi)) ?_);refine UN ?_;refine eU (λw hi=>iO (h.m.Tb hi)) (λhrd13=>?_);refine iX (bS I I) (iM I I I (cO I) hrd13) (λw hi=>U5.Tn (h.m.Tb hi)) I (An ?_);refine eU (λw hi=>iO (h2.m.Tb hi)) (λhrd16=>?_);refine iX (bS I I) (iM I I I (cO I) hrd16) (λw hi=>U5.Tn (h2.m.Tb hi)) I (V3 I I (uj I (cO I) (cO I) (qf ha.m hb.m)) ?_);refine UK ?_;refine eU (λw hi=>iO (h.o.Tb hi)) (λhrd22=>?_);refine iX (bS I I) (iM I I I (cO I) hrd22) (λw hi=>U5.Tn (h.o.Tb hi)) I (An ?_);refine eU (λw hi=>iO (h2.o.Tb hi)) (λhrd25=>?_);refine iX (bS I I) (iM I I I (cO I) hrd25) (λw hi=>U5.Tn (h2.o.Tb hi)) I (V3 I I (uj I (cO I) (cO I) (qf ha.o hb.o)) ?_);refine UK ?_;refine eU (λw hi=>iO (h.i.Tb hi)) (λhrd31=>?_);refine iX (bS I I) (iM I I I (cO I) hrd31) (λw hi=>U5.Tn (h.i.Tb hi)) I (An ?_);refine eU (λw hi=>iO (h2.i.Tb hi)) (λhrd34=>?_);refine iX (bS I I) (iM I I I (cO I) hrd34) (λw hi=>U5.Tn (h2.i.Tb hi)) I (V3 I I (uj I (cO I) (cO I) (qf ha.i hb.i)) ?_);refine An ?_;refine ZFb 19 ?_;refine ZD ?_;refine eU (λw hi=>iO (h.k.Tb hi)) (λhrd40=>?_);refine iX (bS I I) (iM I I I (cO I) hrd40) (λw hi=>U5.Tn (h.k.Tb hi)) I (ZFb 19 ?_);refine ZD ?_;refine eU (λw hi=>iO (h2.k.Tb hi)) (λhrd43=>?_);refine iX (bS I I) (iM I I I (cO I) hrd43) (λw hi=>U5.Tn (h2.k.Tb hi)) I (V3 I I (uj I (cO I) (cO I) (qf ha.k hb.k)) ?_);refine An ?_;refine ZFb 20 ?_;refine ZD ?_;refine ZFb 20 ?_;refine UK ?_;refine ZFb 21 ?_;refine ZD ?_;refine ZFb 21 ?_;refine UK ?_;refine ZFb 22 ?_;refine ZD ?_;refine ZFb 22 ?_;refine wv ?_;refine⟨⟨_,I,?_⟩,I⟩;simp only[ay,beq_iff_eq,St.T7];constructor
 .rintro⟨⟨⟨⟨⟨⟨⟨q1,q2⟩,q3⟩,q4⟩,q5⟩,q6⟩,q7⟩,q8⟩;cases a;cases b;simp_all
 rintro rfl;simp
end Go.Proofs.YtepfimeihngjoaaGreatDoor
namespace Go.Ink
open List renaming length→J, replicate→R9
open IntKind renaming wrap→V9
open Go.RowKit
section
variable{n:Nat}{U V:UI}{s:St}{d:UF}
structure Eqs(q q':St×UI×UF):Prop where
 s:q.1=q'.1
 u:Yn q.2.1 q'.2.1
 d:q.2.2=q'.2.2
theorem Fm{Tc:Nat}:∀(k:Nat) {s:St} {p:Nat} {U V:UI} {d:UF},Yn U V->Eqs (dR n Tc k s p U d) (dR n Tc k s p V d)
 |0,s,p,U,V,d,h=>⟨rfl,h,rfl⟩
 |k+1,s,p,U,V,d,h=>by
  have hf:dL n U.m p=dL n V.m p:=by unfold dL;rw[h.d]
  unfold dR;rw[hf];cases dL n V.m p with
  |none=>exact⟨I,h,I⟩
  |some o=>
   obtain⟨⟨op,nn⟩,z⟩:=o;obtain⟨d1,d2,d3⟩:=do_eqm (n:=n) (s:=s) (d:=d) h op nn;dsimp only;rw[d1,d2];cases jh op (ls n s op nn V d).1 Tc s.pc with
   |true=>exact Fm k d3
   |false=>exact⟨I,d3,I⟩
theorem Na(h:Yn U V):(cI n s U d).s=(cI n s V d).s/\(cI n s U d).place=(cI n s V d).place/\(cI n s U d).runs=(cI n s V d).runs/\Yn (cI n s U d).u (cI n s V d).u/\(cI n s U d).d=(cI n s V d).d:=by
 unfold cI;cases !s.right||s.halted with
 |true=>exact⟨I,I,I,h,I⟩
 |false=>
  dsimp only[cond];obtain⟨t,ht⟩:=Do (told s (d.tick s.count));rw[ht];obtain⟨p1,p2⟩:=KV (n:=n) h t.space t.pc.toNat 1;unfold lI;dsimp only;rw[p1];cases(SR n V t.space t.pc.toNat 1).1.2.SU !=0 with
  |true=>exact⟨I,I,I,p2,I⟩
  |false=>exact⟨I,I,I,p2,I⟩
theorem M7(h:Yn U V):Eqs (cS n s U d) (cS n s V d):=by
 obtain⟨b1,b2,b3,b4,b5⟩:=Na (n:=n) (s:=s) (d:=d) h;unfold cS;dsimp only;rw[b1,b2,b3,b5];cases(cI n s V d).runs with
 |true=>exact Fm 8 b4
 |false=>exact⟨I,b4,I⟩
theorem AU{m f:Int}:∀(k:Nat) {q q':St×UI×UF},Eqs q q'->Eqs (kJ n m f k q) (kJ n m f k q')
 |0,q,q',h=>h
 |k+1,q,q',h=>by
  obtain⟨s,U,d⟩:=q;obtain⟨s',V,d'⟩:=q';obtain⟨h1,h2,h3⟩:=h;dsimp only at h1 h2 h3;subst h1 h3;cases hc:fH m f s with
  |false=>rw[kz (q:=(s,U,d)) hc,kz (q:=(s,V,d)) hc];exact⟨I,h2,I⟩
  |true=>rw[oq (q:=(s,U,d)) hc,oq (q:=(s,V,d)) hc];exact AU k (M7 h2)
theorem run_eqs(h:Yn U V)(m:Int):Eqs (eH n m s U d) (eH n m s V d):=AU m.toNat (q:=(s,U,d)) (q':=(s,V,d)) ⟨I,h,I⟩
end
end Go.Ink
namespace Go.Ink
open List renaming length→J, replicate→R9
open IntKind renaming wrap→V9
open Go.RowKit
theorem UO.Uv{n:Nat}{l:Li}(h:J l<=n*64):(UO.load n l).data=l++R9 (n*64 - J l) 0:=congrArg UO.data (UO.UA h)
end Go.Ink
namespace Go.Proofs.YtepfimeihngjoaaGreatDoor
open List renaming length→J, replicate→R9
open IntKind renaming wrap→V9
open Go.RowKit Go.Ink Go.Proofs.Tryz
attribute [local irreducible] Ve bN
def VS.view(G:VS):Vw:=⟨G.s,G.U.m.data,G.d.out,G.d.inp,G.d.S8,G.d.S7,G.d.mask,false⟩
def deadV:Vw:=⟨St.zero,[],[],[],[],0,0,true⟩
abbrev vwC(v:Vw)(Y:VAd):List bJ:=[Vf v.s Y.X.Ad Y.X.cd,Vj v.s Y.X.Ar Y.X.cr,b8 Y.Am Y.cm v.m,b8 Y.Ao Y.co v.o,b8 Y.Ai Y.ci v.i,b8 Y.Ak Y.ck v.k]
theorem VS.ok.view{n:Nat}{G:VS}(h:G.ok n)(ho:Vh G.d.out):G.view.wf:=⟨h.g.wf,h.g.u.m.db,ho,h.g.dv.wf.Uo,h.g.dv.wf.TP⟩
theorem Oe{w:World}{v:Vw}{Y:VAd}(h:∀c,c∈vwC v Y->c.ok w)(hd:J v.s.d*4<=140737488355328)(hr:J v.s.r*4<=140737488355328):RdVw w v Y:=
 ⟨⟨eO (h _ (.head _)),eO (h _ (.tail _ (.head _))),hd,hr⟩,eO (h _ (.tail _ (.tail _ (.head _)))),eO (h _ (.tail _ (.tail _ (.tail _ (.head _))))),eO (h _ (.tail _ (.tail _ (.tail _ (.tail _ (.head _)))))),eO (h _ (.tail _ (.tail _ (.tail _ (.tail _ (.tail _ (.head _)))))))⟩
theorem tX(H:ug)(G:VS)(hG:G.ok H.L.n)(ho:J G.d.out<=1000000000)(w:World)(h:∀c,c∈Vp H G->c.ok w):
  UW prog 20 [.p H.bg] w [] (λv cs=>∃Y,v=vv G.view Y/\cs=vwC G.view Y):=by
 obtain⟨s,X,Y,U,d,o⟩:=G;have hg:=hG.g;dsimp only at hg ho;obtain⟨hd16,hr16, -⟩:=St.fits hg.right;have hinp:=hg.dv.wf.inp;have hdk:=hg.dv.wf.S8;have h0:(gRow H ⟨s,X,Y,U,d,o⟩ false).ok w:=h _ cJ;have hst:iL w s X.Ad X.Ar X.cd X.cr:=⟨eO (h (Vf s X.Ad X.cd) cJ),eO (h (Vj s X.Ar X.cr) cJ),by omega,by omega⟩;have hm:(fM H.L U.m).ok w:=h _ cJ;have hbu:(SC H.D H.L.bm d).ok w:=h _ cJ;have hir:(rE H.D.bi d.S7 d.mask).ok w:=h _ cJ;have hcn:(zP H.D.bcn Y.Ao (J d.out) Y.co Y.Ai (J d.inp) Y.ci).ok w:=h _ cJ;have hou:(b8 Y.Ao Y.co d.out).ok w:=h _ cJ;have hii:(b8 Y.Ai Y.ci d.inp).ok w:=h _ cJ;have hdr:(N1 H.D.bdr H.D.bdk).ok w:=h _ cJ;have hds:(Cj H.D.bdk d.S8).ok w:=h _ cJ;have HDr:∀w,(N1 H.D.bdr H.D.bdk).ok w->(Cj H.D.bdk d.S8).ok w->UW prog 77 [.p H.D.bdr] w [] (λv cs=>∃A' c',v= .slice A' (J d.S8) c'/\cs=[sl .u8 5 A' (J d.S8) c' d.S8]):=λw h h2=>by
  have e:=Cm H.D.bdr H.D.bdk d.S8 w h h2
  simp_all
 refine UV func20 ntmps20 ?_;refine An ?_;refine ZN λb2=>?_;refine US ?_;refine XR 22 ?_;refine I1 ?_;refine An ?_;refine lN ?_;refine UN ?_;refine bQ (Vg [48]) Zk (ZE 0 ?_);refine ZE 2 ?_;refine ZE 3 ?_;refine UE 4 1 ?_;refine Vn 5 I (bO ir (Zv I)) (cW gQ I) ?_;refine ZE 7 ?_;refine ZE 8 ?_;refine UE 9 0 ?_;refine Vn 10 I (bO ir (Zv I)) (cW gQ I) ?_;refine ZE 11 ?_;refine UE 12 2 ?_;refine Vn 13 I (bO ir (Zv I)) (cW gQ I) ?_;refine ZE 15 ?_;refine ZE 16 ?_;refine UE 17 0 ?_;refine Vn 18 I (bO ir (Zv I)) (cW gQ I) ?_;refine ZE 19 ?_;refine UE 20 2 ?_;refine Vn 21 I (bO ir (Zv I)) (cW gQ I) ?_;refine ZE 23 ?_;refine ZE 24 ?_;refine UE 25 0 ?_;refine Vn 26 I (bO ir (Zv I)) (cW gQ I) ?_;refine ZE 27 ?_;refine UE 28 3 ?_;refine Vn 29 I (bO ir (Zv I)) (cW gQ I) ?_;refine ZE 31 ?_;refine ZE 32 ?_;refine UE 33 0 ?_;refine Vn 34 I (bO ir (Zv I)) (cW gQ I) ?_;refine ZE 35 ?_;refine UE 36 0 ?_;refine Vn 37 I (bO ir (Zv I)) (cW gQ I) ?_;refine ZE 39 ?_;refine ZE 40 ?_;refine UE 41 0 ?_;refine Vn 42 I (bO ir (Zv I)) (cW gQ I) ?_;refine ZE 43 ?_;refine UE 44 0 ?_;refine Vn 45 I (bO ir (Zv I)) (cW gQ I) ?_;refine cP 1 Zk (V1 (λw hi=>qt H ⟨s,X,Y,U,d,o⟩ w (bJ.old h0 hi) (hst.Tb hi)) ?_);rintro _ _ ⟨A1,c1,A2,c2,rfl,rfl⟩;refine cP 6 Zk (V1 (λw hi=>KD H.L U.m w (bJ.old hm hi)) ?_);rintro _ _ ⟨bx,rfl,rfl⟩;refine ku ?_;refine V1 (λw hi=>vY H.D.bcn Y.Ao Y.co d.out Y.Ai (J d.inp) Y.ci ho w (bJ.old hcn hi) (bJ.old hou hi)) ?_;rintro _ _ ⟨A5,c5,rfl,rfl⟩;refine cP 22 Zk (V1 (λw hi=>Gk H.D.bcn Y.Ao (J d.out) Y.co Y.Ai Y.ci d.inp O w (bJ.old hcn hi) (bJ.old hii hi)) ?_);rintro _ _ ⟨A6,c6,rfl,rfl⟩;refine cP 30 Zk (V1 (λw hi=>HDr w (bJ.old hdr hi) (bJ.old hds hi)) ?_);rintro _ _ ⟨A7,c7,rfl,rfl⟩;refine cP 38 Zk (V1 (λw hi=>rz H.D.bi d.S7 d.mask w (bJ.old hir hi)) ?_);refine UR ?_;refine cP 46 Zk (V1 (λw hi=>D1 H.D.bi d.S7 d.mask w (bJ.old hir hi)) ?_);refine UR ?_;refine ZE 47 ?_;refine cP 48 Zk (ZR ?_);refine pk ?_;exact bK (row b2 (Vw.cells (VS.view ⟨s,X,Y,U,d,o⟩) ⟨⟨A1,c1,A2,c2⟩,some ⟨bx,0,none⟩,J U.m.data,A5,c5,A6,c6,A7,c7⟩) 46::vwC (VS.view ⟨s,X,Y,U,d,o⟩) ⟨⟨A1,c1,A2,c2⟩,some ⟨bx,0,none⟩,J U.m.data,A5,c5,A6,c6,A7,c7⟩) Zj (lL (cs':=(vwC (VS.view ⟨s,X,Y,U,d,o⟩) ⟨⟨A1,c1,A2,c2⟩,some ⟨bx,0,none⟩,J U.m.data,A5,c5,A6,c6,A7,c7⟩)) (.inl I) Zu I I Zh ir ir ⟨⟨⟨A1,c1,A2,c2⟩,some ⟨bx,0,none⟩,J U.m.data,A5,c5,A6,c6,A7,c7⟩,I,I⟩)
theorem free0:freeN (R9 256 (-1)) 256=240:=by decide+kernel
theorem zC(bp o n:Nat)(W:Li)(hW:J W=16384)(ho:o<4)(hn0:1<=n)(hn:n<=64)(A B:Oa)(c e:Nat)(l k:Li)(hll:J l<=n*64)(hlb:Vh l)(hkl:J k<=1024)(hkb:Vh k)(tr:Bool)(w:World)(hi:Inv w (bM [ft bp W (R9 256 (-1)) (R9 4 (-1))]) [ft bp W (R9 256 (-1)) (R9 4 (-1))] w)
  (hA:∀w',dc (bM [ft bp W (R9 256 (-1)) (R9 4 (-1))]) w w'->Rd w' .u8 A (J l) c l) (hB:∀w',dc (bM [ft bp W (R9 256 (-1)) (R9 4 (-1))]) w w'->Rd w' .u8 B (J k) e k):
  UW prog 66 [.p bp,.i o,NZ A c l B e k n,.bool tr] w [ft bp W (R9 256 (-1)) (R9 4 (-1))] (λv cs=>∃H G,RN bp o n W (R9 256 (-1)) (R9 4 (-1)) l k tr H G/\v= .tuple #[.p H.bg,.i 0]/\cs=Vp H G):=
 gnew_ok bp W (R9 256 (-1)) (R9 4 (-1)) ⟨hW,az,az⟩ o n ho hn0 hn bZ (by rw[show nv (R9 4 (-1)) 4=0 from I];omega) (λx hx=>by grind) (λx hx=>by grind) (by rw[free0];omega) A B c e l k hll hlb hkl hkb tr w hi hA hB
end Go.Proofs.YtepfimeihngjoaaGreatDoor
namespace Go.Ink
open List renaming length→J, replicate→R9
open IntKind renaming wrap→V9
open Go.RowKit
section
variable{n:Nat}{d:UF}{M:UO}
theorem zN(h:d.said)(k:Int)(v:Nat):(bU n M d k v).2.2.said:=by
 have ha:Vh (d.out++[V9 .u8 (v:Int)]):=λx hx=>by
  rcases aJ.1 hx with q|q
  .exact h x q
  rw[aX.1 q];exact ul _
 unfold bU dp
 repeat (first|exact h|exact ha|refine bL (λq:Bool×UO×UF=>q.2.2.said) ?_ ?_)
end
end Go.Ink
namespace Go.Proofs.YtepfimeihngjoaaGreatDoor
open List renaming length→J, replicate→R9
open IntKind renaming wrap→V9
open Go.RowKit Go.Ink Go.Proofs.Tryz
attribute [local irreducible] Ve bN
structure uh.ok(W:World)(a:uh):Prop where
 rd:Rd W .u8 a.B (J a.bs) a.cb a.bs
 bs:Vh a.bs
 at_:u32 a.at_
end Go.Proofs.YtepfimeihngjoaaGreatDoor
namespace Go.Ink
open List renaming length→J, replicate→R9
open Go.RowKit
theorem Il:Sj (eH 1 9 St.new ⟨UO.load 1 [2,72,0,0,0,2,16,128,0,0,49,69],cX⟩ (UF.init []))=true:=by decide+kernel
end Go.Ink
namespace Go.Proofs.YtepfimeihngjoaaGreatDoor
open List renaming length→J, replicate→R9
open Go.RowKit Go.Ink Go.Proofs.Tryz
attribute [local irreducible] Ve bN
theorem Oy(A:Oa)(c:Nat)(l:List (Int×Int))(hl:J l<=1000)(w:World)(h:U5 w 2 A (J l) c (l.flatMap fY)):UW prog 78 [.slice A (J l) c] w [] (λv cs=>∃A' c',v= .slice A' (J (g9 l)) c'/\cs=[sl .u8 5 A' (J (g9 l)) c' (g9 l)]):=by
 refine UV func78 ntmps78 ?_;refine Va ?_;refine Vl (λw hi=>vZ A c l hl w (h.Tb hi)) ?_;rintro _ _ ⟨A1,c1,rfl,rfl⟩;refine UK ?_;refine VA ([slv _ _ _ _ _ _]) ?_;exact⟨A1,c1,I,I⟩
theorem uD(n:Nat)(hn0:1<=n)(hn:n<=64)(A B:Oa)(c e:Nat)(l k:Li)(hll:J l<=n*64)(hlb:Vh l)(hkl:J k<=1024)(hkb:Vh k)(tr:Bool)(w:World)(hA:Rd w .u8 A (J l) c l)(hB:Rd w .u8 B (J k) e k):
  UW prog 14 [NZ A c l B e k n,.bool tr] w [] (λv cs=>∃H G,RN H.L.bp 0 n (R9 16384 0) (R9 256 (-1)) (R9 4 (-1)) l k tr H G/\v= .p H.bg/\cs=Vp H G):=by
 have HF:=zF;have HN:=λbp w hi hA hB=>zC bp 0 n (R9 16384 0) az ne hn0 hn A B c e l k hll hlb hkl hkb tr w hi hA hB
 obtain⟨W0,hW0⟩:=Do (R9 256 (-1:Int));obtain⟨B0,hB0⟩:=Do (R9 16384 (0:Int));obtain⟨P0,hP0⟩:=Do (R9 4 (-1:Int));rw[hB0,hW0,hP0]at HF HN|-;refine UV func14 ntmps14 ?_;refine An ?_;refine ZO λb2=>?_;refine UQ ?_;refine Vl (λw hi=>HF w) ?_;rintro _ _ ⟨bp,rfl,rfl⟩;refine Wq227 ?_;rintro _ _ ⟨_,⟨H,G,hBo,rfl,rfl⟩,rfl⟩;obtain rfl:H.L.bp=bp:=hBo.hbp;refine r7 ?_;refine U8 ?_;refine bK (Vp H G) Zj (VA ((Vp H G)) ?_);exact⟨H,G,hBo,I,I⟩
theorem Gx(w:World)(ht:iU w):CW prog 22 [] w (.bool true):=by
 have hb:Vh [2,72,0,0,0,2,16,128,0,0,49,69]:=by rw[<-Gl];exact mj _ _
 have HC:=λA c w h=>Oy A c YG (show(4:Nat)<=1000 by decide) w h
 rw[Gl]at HC;have HN:=λA c w hA=>uD 1 ne ne A none c 0 [2,72,0,0,0,2,16,128,0,0,49,69] [] ne hb ne (λx hx=>by cases hx) true w hA (y6 w .u8)
 have hK:=Il;obtain⟨l0,hl0⟩:∃l:List Int,[2,72,0,0,0,2,16,128,0,0,49,69]=l:=⟨_,I⟩;rw[hl0]at HC HN hK;obtain⟨U0,hU⟩:=Do ((⟨UO.load 1 l0,cX⟩:UI));obtain⟨d0,hd⟩:=Do (UF.init []);have ho:J d0.out<=0:=by rw[<-hd];exact aK _
 rw[hU,hd]at hK;obtain⟨⟨s9,U9,d9⟩,hR⟩:=Do (eH 1 9 St.new U0 d0);rw[hR]at hK;simp only[Sj,ay,beq_iff_eq]at hK;obtain⟨⟨k1,k2⟩,k3⟩:=hK;have HG:∀(H:ug) (G:VS) (B0 W0 P0:Li),RN H.L.bp 0 1 B0 W0 P0 l0 [] true H G->H.L.n=1/\G.ok H.L.n/\J G.d.out<=0/\eH H.L.n 9 G.s G.U G.d=(s9,U9,d9)/\G.s.count=0:=λH G B0 W0 P0 h=>⟨h.hn,by rw[h.hn];exact h.ok,by rw[h.hd,hd];exact ho,by rw[h.hn,h.hs,h.hu,h.hd,hU,hd];exact hR,by rw[h.hs];rfl⟩
 refine UV func22 ntmps22 ?_;refine US ?_;refine UZ (λw hi=>JW _ w) ?_;refine UZ (λw hi=>JW _ w) ?_;refine UZ (λw hi=>RX _ w) ?_;refine UZ (λw hi=>RX _ w) ?_;refine wF ?_;rintro _ _ ⟨b6,rfl,rfl⟩;refine Vl (λw hi=>HC (sA b6) 4 w (hi.rd (UJ (slv 51 2 (sA b6) 4 4 (YG.flatMap fY))))) ?_;rintro _ _ ⟨A1,c1,rfl,rfl⟩;refine ZA ?_;refine Vl (λw hi=>HN A1 c1 w (hi.rd (UJ (sl .u8 5 A1 (J l0) c1 l0)))) ?_;rintro _ _ ⟨H,G,hBo,rfl,rfl⟩;obtain⟨hn2,hG,hoG,hrG,hcG⟩:=HG H G _ _ _ hBo;have HR:=λw hi ht=>vE H G O hG 9 ne ne (by rw[show(9:Int).toNat=9 from I];omega) w hi ht
 rw[hrG,hcG]at HR;dsimp only at HR;rw[k2]at HR;refine U8 ?_;refine gm (bS I I) I (dh (Vp H G) I (λ_ _=>I) Zi (λw hi hin=>HR w hin (λw' hk=>U5.Th ht hi Zi hk))) I ?_;rintro _ _ ⟨_,⟨⟨s2,X2,Y2,U2,d2,o2⟩,⟨hG2,hr2, -⟩,rfl,rfl⟩,rfl⟩;simp only[aB]at hr2;obtain⟨rfl,rfl,rfl⟩:=hr2;have hg2:=hG2.g;dsimp only at hg2;obtain⟨he16,hf16, -⟩:=St.fits hg2.right;refine V3 I I (ly (cO I) (Zv I) (show _=true from I)) ?_;refine U8 ?_;refine Wq409 ?_;rintro _ _ ⟨_,⟨A5,c5,rfl,rfl⟩,rfl⟩;refine eU (λw hi=>iO (hi.rd (UJ (b8 A5 c5 d2.out)))) (λhrd26=>?_);refine iX (bS I I) (iM I I I (cO I) hrd26) (λw hi=>U5.Tn (hi.rd (UJ (b8 A5 c5 d2.out)))) I (Wq191 ?_);rintro _ _ ⟨_,⟨A3,c3,A4,c4,rfl,rfl⟩,rfl⟩;refine V3 I I (tL I I ir (cO I) (congrArg (λb=>some (Value.bool b)) k1)) ?_;exact qP
end Go.Proofs.YtepfimeihngjoaaGreatDoor
