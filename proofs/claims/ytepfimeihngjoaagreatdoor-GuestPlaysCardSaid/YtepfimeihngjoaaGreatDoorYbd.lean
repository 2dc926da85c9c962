/- Lemmas. -/
import Derived.Test.YtepfimeihngjoaaGreatDoorYay
import Derived.Test.YtepfimeihngjoaaGreatDoorYba
set_option linter.all false
set_option maxRecDepth 100000
set_option maxHeartbeats 4000000
namespace Go.Ink
open List renaming length→J, replicate→R9
open IntKind renaming wrap→V9
open Go.RowKit Go.Proofs.Tryz
section
attribute [local irreducible] UL bM
variable{E:Vk}
variable{E:Vi}
variable{p:Int}
variable{p:Nat}
theorem L3(room:Int)(hr:1<=room/\room<=1024)(w:World):Uz prog 28 [.i room] w [] (λv cs=>∃be E,(oJ E/\E.eng=Vi.fresh room)/\v= .tuple #[.p be,.i 0]/\cs=Vr be E):=by
 refine(enew_ok room w).mono ?_;rintro v cs h;rw[if_pos hr]at h;obtain⟨be,bc,mr,ml,rfl,rfl⟩:=h;exact⟨be,⟨bc,mr,room,⟨ml,none,0,0,[],[]⟩,[],(0,0),0,0,false⟩,⟨⟨qI.none hr _ _ _ _,gy.fresh hr,(λy hy=>nomatch hy),(show lA (0,0)from⟨⟨by decide,by decide⟩,by decide,by decide⟩)⟩,rfl⟩,rfl,rfl⟩
end
end Go.Ink
namespace Go.Ink
open List renaming length→J, replicate→R9
open IntKind renaming wrap→V9
open Go.RowKit Go.Proofs.Tryz
variable{ow:Li}{o:Int}
variable{L:ez}{k:Cb}
section
attribute [local irreducible] UL bM
structure Vy.ok(n:Nat)(G:Vy):Prop where
 g:Vp n G.s G.U G.d
 e:∀E,G.o=some E->oJ E
structure Xo(bp o n:Nat)(W ow pr l k:Li)(tr:Bool)(H:mY)(G:Vy):Prop where
 hbp:H.L.bp=bp
 ho:H.L.o=o
 hn:H.L.n=n
 hgw:H.L.gw=ow
 hgB:H.L.gB=W
 hgp:H.L.gp=pr.set o n
 hs:G.s=St.new
 hu:G.U=⟨Uy.load n l,dA⟩
 hd:G.d=Un.init k
 htr:G.o.isSome=tr
 ok:G.ok n
theorem LC(bp:Nat)(W ow pr:Li)(hl:dz W ow pr)(o n:Nat)(ho:o<4)(hn0:1<=n)(hn:n<=64)(h1:pr[o]? =some (-1))(hs:(n:Int)+gQ pr 4<=240)(hb:∀x,x∈pr->x<=1000)(hno:∀x,x∈ow->x≠(o:Int))(hc:n<=PM ow 256)
  (A B:Oa) (c e:Nat) (l k:Li) (hll:J l<=n*64) (hlb:UO l) (hkl:J k<=1024) (hkb:UO k) (tr:Bool) (w:World) (hi:Inv w (bK [dF bp W ow pr]) [dF bp W ow pr] w)
  (hA:∀w',cX (bK [dF bp W ow pr]) w w'->Rd w' .u8 A (J l) c l) (hB:∀w',cX (bK [dF bp W ow pr]) w w'->Rd w' .u8 B (J k) e k):
  Uz prog 66 [.p bp,.i o,Xh A c l B e k n,.bool tr] w [dF bp W ow pr] (λv cs=>∃H G,Xo bp o n W ow pr l k tr H G/\v= .tuple #[.p H.bg,.i 0]/\cs=UY H G):=by
 have hG:=Pe (n:=n) (l:=l) (k:=k) hlb hkl hkb;have HM:∀bt bf bg bm,dK (⟨bp,bt,bf,bg,bm,o,n,ow,W,pr.set o n⟩) (Uy.new n) ⟨W,ow,pr.set o n,R9 n (-1),R9 n false⟩:=λbt bf bg bm=>
  dK.new (L:=⟨bp,bt,bf,bg,bm,o,n,ow,W,pr.set o n⟩) ho hn0 hn (pr:=pr) hl rfl hno (PL hc)
 have HB:∀(H:mY) (G:Vy),H.L.bp=bp->H.L.o=o->H.L.n=n->H.L.gw=ow->H.L.gB=W->H.L.gp=pr.set o n->G.s=St.new->G.U=⟨Uy.load n l,dA⟩->G.d=Un.init k->G.o.isSome=tr->(∀E,G.o=some E->oJ E)->Xo bp o n W ow pr l k tr H G:=λH G a1 a2 a3 a4 a5 a6 a7 a8 a9 a10 a11=>⟨a1,a2,a3,a4,a5,a6,a7,a8,a9,a10,⟨by grind,a11⟩⟩
 have H2:=λbm w h=>Mw bm B e k hkl w h
 unfold Uy.load at HB;obtain⟨d,hd⟩:=Uk (Un.init k);rw[hd]at H2 HB;clear hG hd;refine UH func66 ntmps66 hi ?_;refine py ?_;refine ZO λb6=>?_;refine iR ?_;refine jn ?_;refine Zs (bN (UK []) Zk ?_);refine vH ?_;refine Rg ?_;refine VF (λw hi=>ql (J l) O w) ?_;refine Uw ?_;refine QR ?_;refine Zt (cG I (Do) ?_);refine UE ?_;refine dE ([dF bp W ow pr]) (λw hi hin=>nnew_ok bp W ow pr hl o n ho hn0 hn h1 hs hb w hin) ?_;rintro _ _ ⟨bt,bf,bg,rfl,rfl⟩;refine qB ?_;refine UA ?_;refine UW (λw hi=>rnew_ok bp bt w) ?_;rintro _ _ ⟨bm,rfl,rfl⟩;refine UE ?_;refine Ej (bs:=[bp,bt,bf,bg,bm]) (F:=zi ⟨bp,bt,bf,bg,bm,o,n,ow,W,pr.set o n⟩ (R9 64 false)) (hb:=λ_=>I) (p:=dK ⟨bp,bt,bf,bg,bm,o,n,ow,W,pr.set o n⟩ (Uy.new n)) ⟨W,ow,pr.set o n,R9 n (-1),R9 n false⟩ (HM bt bf bg bm) Zi (Us ?_);refine U5 ([eY ⟨bp,bt,bf,bg,bm,o,n,ow,W,pr.set o n⟩ (Uy.new n)]) (λw hi hin=>Oc ⟨bp,bt,bf,bg,bm,o,n,ow,W,pr.set o n⟩ (Uy.new n) A c l hll hlb w hin (λw' hk=>hA w' (hi.Tn Zi hk))) ?_;refine Ux ?_;refine UW (λw hi=>H2 bm w (hB w hi.S1)) ?_;rintro _ _ ⟨D,rfl,rfl⟩;refine eK ?_;refine UW (λw hi=>KD bm w) ?_;rintro _ _ ⟨bu,bb,rfl,rfl⟩;refine jG ?_;refine UD (λw hi=>T8 w) ?_;refine ZA ?_;refine ZO λb77=>?_
 refine dg 32 1 (dg 32 1 (VM ?_ ?_))<;>intro hc13
 .refine py ?_;refine UW (λw hi=>L3 32 ⟨by decide,by decide⟩ w) ?_;rintro _ _ ⟨be,E,⟨hE,hE0⟩,rfl,rfl⟩;refine Uu ?_;refine xE (Vr be E) Zi (ZL ?_);refine eK ?_;exact bI (UY ⟨b77,bu,bb,be,⟨bp,bt,bf,bg,bm,o,n,ow,W,pr.set o n⟩,D⟩ ⟨St.new,⟨none,0,none,0⟩,⟨none,0,none,0⟩,⟨(Uy.new n).fill 0 l (J l),dA⟩,d,some E⟩) Zj (vL (cs':=(UY ⟨b77,bu,bb,be,⟨bp,bt,bf,bg,bm,o,n,ow,W,pr.set o n⟩,D⟩ ⟨St.new,⟨none,0,none,0⟩,⟨none,0,none,0⟩,⟨(Uy.new n).fill 0 l (J l),dA⟩,d,some E⟩)) (.inl I) Zu I I I ⟨⟨b77,bu,bb,be,⟨bp,bt,bf,bg,bm,o,n,ow,W,pr.set o n⟩,D⟩,⟨St.new,⟨none,0,none,0⟩,⟨none,0,none,0⟩,⟨(Uy.new n).fill 0 l (J l),dA⟩,d,some E⟩,HB _ _ I I I I I I I I I (show true=tr from hc13.symm) (λE' h=>by grind),rfl,rfl⟩)
 refine eK ?_;exact lV (bI (UY ⟨b77,bu,bb,0,⟨bp,bt,bf,bg,bm,o,n,ow,W,pr.set o n⟩,D⟩ ⟨St.new,⟨none,0,none,0⟩,⟨none,0,none,0⟩,⟨(Uy.new n).fill 0 l (J l),dA⟩,d,none⟩) Zj (vL (cs':=(UY ⟨b77,bu,bb,0,⟨bp,bt,bf,bg,bm,o,n,ow,W,pr.set o n⟩,D⟩ ⟨St.new,⟨none,0,none,0⟩,⟨none,0,none,0⟩,⟨(Uy.new n).fill 0 l (J l),dA⟩,d,none⟩)) (.inl I) Zu I I I ⟨⟨b77,bu,bb,0,⟨bp,bt,bf,bg,bm,o,n,ow,W,pr.set o n⟩,D⟩,⟨St.new,⟨none,0,none,0⟩,⟨none,0,none,0⟩,⟨(Uy.new n).fill 0 l (J l),dA⟩,d,none⟩,HB _ _ I I I I I I I I I (show false=tr from hc13.symm) (λE' h=>by cases h),rfl,rfl⟩))
theorem u5(H:mY)(G:Vy)(w:World)(h:(vV H G false).ok w)(h2:kS w G.s G.X.Ad G.X.Ar G.X.cd G.X.cr):Uz prog 17 [.p H.bg] w [] (D5 G.s):=by
 refine UB func17 ntmps17 ?_;refine py ?_;refine ZN λb2=>?_;refine Ux ?_;refine dW (cj (vs:=G.s.cells (.slice G.X.Ad (J G.s.d) G.X.cd) (.slice G.X.Ar (J G.s.r) G.X.cr)) ir ir ne) (oz (o:=6) h I) I (UW (λw hi=>mH G.s G.X.Ad G.X.Ar G.X.cd G.X.cr w (h2.SS hi)) ?_);rintro _ _ ⟨A1,c1,A2,c2,rfl,rfl⟩;refine kQ ?_;exact mz (cs':=[UP G.s A1 c1,UU G.s A2 c2]) (.inl I) Zu I I Zh ir ir ⟨A1,c1,A2,c2,I,I⟩
end
end Go.Ink
namespace Go.Ink
open List renaming length→J, replicate→R9
open IntKind renaming wrap→V9
open Go.RowKit Go.Proofs.Tryz
structure zf.ok(W:World)(a:zf):Prop where
 v:u32 a.v
 at_:u32 a.at_
 rd:Rd W .u8 a.B (J a.bs) a.cb a.bs
 bs:UO a.bs
section
attribute [local irreducible] UL bM
variable{W:World}
set_option maxRecDepth 100000 in
theorem OJ{es:List Value}(h:VS prog W 274 es):∃a:zf,es=a.cells/\a.ok W:=by
 obtain⟨hl,hf⟩:=h.struct I;have hl:J es=5:=hl
 match es,hl with
 |[c0,c1,c2,c3,c4],_=>
  have k0:VS prog W _ [c0]:=hf 0 _ I;have k1:VS prog W _ [c1]:=hf 1 _ I;have k2:VS prog W _ [c2]:=hf 2 _ I;have k3:VS prog W _ [c3]:=hf 3 _ I;have k4:VS prog W _ [c4]:=hf 4 _ I;obtain⟨n0,rfl,m0⟩:=Xj I k0;obtain⟨n1,rfl,m1⟩:=Xj I k1;obtain⟨n2,rfl,m2⟩:=Xj I k2;obtain⟨n3,rfl,m3⟩:=Xj I k3;obtain⟨A2,d2,x2,e2,r2,b2,z2⟩:=k4.ints (e:=5) (k:= .u8) I I I;obtain rfl:c4=_:=by simpa using e2
  exact⟨⟨n0,n1,n2,n3,A2,d2,x2⟩,I,⟨zx m2,zx m3,r2,λx hx=>Yb (z2 x hx)⟩⟩
set_option maxRecDepth 100000 in
theorem AJ{v:Value}(h:zp prog W 71 v):∃(A:Oa) (c:Nat) (l:List zf),v= .slice A (J l) c/\UJ W 5 A (J l) c (l.flatMap zf.cells)/\∀a,a∈l->a.ok W:=by
 obtain⟨A,c,xs,h1,h2,h3,h4⟩:=zp.rows (e:=274) I I zf.S6 ⟨0,0,0,0,none,0,[]⟩ (λes he=>OJ he) h;exact⟨A,c,xs,h1,h2,h3⟩
theorem Kk(A:Oa)(c:Nat)(l:List zf)(w:World)(h:UJ w 5 A (J l) c (l.flatMap zf.cells))(hl:∀a,a∈l->a.ok w):
  Uz prog 97 [.slice A (J l) c,.i 60] w [] (λv cs=>∃A' c' E,(UO E/\J E<=900)/\v= .slice A' (J E) c'/\cs=[sl .u8 5 A' (J E) c' E]):=by
 have hlm:J l<=maxLen:=aR h.cap h.max;simp only[maxLen]at hlm;refine UB func97 ntmps97 ?_;refine iR ?_;refine dg 5 1 (Ut ?_);refine UX (λq:Nat×Option Addr×Nat×List Int=>[(0,.slice A (J l) c),(1,.i 60),(5,.slice q.2.1 (J q.2.2.2) q.2.2.1),(6,.i (q.1:Int))]) (λq=>[sl .u8 5 q.2.1 (J q.2.2.2) q.2.2.1 q.2.2.2]) (λq=>q.1<=60/\UO q.2.2.2/\J q.2.2.2<=15*q.1) (λq=>60 - q.1) (⟨0,none,0,[]⟩) ⟨ay _,λx hx=>(by cases hx),aL _⟩ ?_;rintro⟨i,A1,c1,o⟩ ⟨hi60,ho1,ho2⟩;dsimp only at hi60 ho1 ho2|-;refine tH ?_ ?_<;>intro hc3
 .have hil:i<J l/\i<60:=(by revert hc3;cases h1:decide ((i:Int)<(J l:Int))<;>cases h2:decide ((i:Int)<60)<;>simp_all<;>omega);obtain⟨ad,rfl⟩:=h.some_ O;have hla:l[i]? =some (l[i]'hil.1):=aj hil.1;have hok:=hl _ (List.getElem_mem hil.1);obtain⟨r,hr⟩:=Uk (l[i]'hil.1);rw[hr]at hla hok;obtain⟨kd,n,v,at_,B,cb,bs⟩:=r;obtain⟨hv,hat,hrd,hbs⟩:=hok;dsimp only at hv hat hrd hbs;obtain⟨v,rfl⟩:∃m:Nat,v=m:=ai hv.1;obtain⟨a,rfl⟩:∃m:Nat,at_=m:=ai hat.1;have hv2:=hv.2;have ha2:=hat.2;obtain⟨km,hkm⟩:=Uk (gi kd 0 1000);have HW:=λw=>hkm▸lL kd 0 1000 w An An An
  have hb9:=kz hrd 9;have hE2:J (bs.take 9)<=9:=MX;have hE1:UO (bs.take 9):=(λx hx=>hbs x (aX hx));have HCut:=λw=>FR B cb bs 9 w hrd.cap
  obtain⟨E,hb9e⟩:=Uk (bs.take 9);rw[hb9e]at hb9 hE2 hE1 HCut;have HI1:=Fh n a hat;have HI2:=Fh n v hv;obtain⟨sop,hs⟩:∃y,([49,51,53]:Li)[v%3]? =some y:=⟨_,aj (show v%3<3 by omega)⟩;obtain⟨lop,hlo⟩:∃y,([48,50,52]:Li)[v%3]? =some y:=⟨_,aj (show v%3<3 by omega)⟩;refine UG ?_;refine Zy (cW (j:=i) I ir (Zv I) (Zv I) Uq Uq) ?_;refine dW (cj (vs:=[.i kd,.i n,.w (v:Int),.w (a:Int),.slice B (J bs) cb]) ir ir ne) (fP h (λj v hj=>fK zf.S6 (i:=j) hla hj)) I ?_;refine ZN λb7=>?_
  refine ZM ?_;refine Ux ?_;refine ZN λb8=>?_
  refine iS ?_;refine Zy (fH (Zv I) (Zv I) O (show _=((a%300:Nat):Int)from by rw[aw O];omega)) ?_;refine ZA ?_;refine ZN λb9=>?_
  refine iS ?_;refine UD (λw hi=>HW w) ?_;refine Zy (fH (Zv I) (Zv I) O (by first|exact IntWalk.rem_in _ _ O|exact rfl)) ?_;refine VM ?_ ?_<;>intro hc10
  .refine ik (UK [12]) [(0,0),(1,4),(2,4),(4,0),(5,4),(6,0),(3,2),(7,0),(8,4),(9,0),(10,2),(11,2),(12,2),(13,0)] Zk Zk (mK ?_);refine MW ?_;refine MW ?_;refine Wq246 ?_;rintro _ _ ⟨b50,rfl,rfl⟩;refine dX I (bW (j:=(v%3)) (sz:=1) (r:=(v%3)) I ir (Zv I) (Zv I) Uq Uq O) I (wh I (bL ir ne) (cN Zh (bX (l:=[49,51,53]) hs)) I (dX I (tJ I I ir I I I Zb) I (Q3 ?_)));rintro _ _ ⟨b57,rfl,rfl⟩;refine dZ ?_;refine lv I I (dQ I (λ_ _=>I) (λw hi=>pC (sA b57) 3 [(2,(v:Int)),(2,((a%300:Nat):Int)),(sop,0)] cE w (hi.rd (Ur (slv 51 2 (sA b57) 3 3 ([(2,(v:Int)),(2,((a%300:Nat):Int)),(sop,0)].flatMap iP)))))) ZJ I ?_;exact Yy
  refine Ul ?_ ?_<;>intro hc12
  .refine ik (UK [11]) [(0,0),(1,4),(3,0),(4,4),(5,0),(2,2),(6,0),(7,4),(8,0),(9,2),(10,2),(11,2),(12,0)] Zk Zk (mK ?_);refine MW ?_;refine Wq246 ?_;rintro _ _ ⟨b64,rfl,rfl⟩;refine dX I (bW (j:=(v%3)) (sz:=1) (r:=(v%3)) I ir (Zv I) (Zv I) Uq Uq O) I (wh I (bL ir ne) (cN Zh (bX (l:=[48,50,52]) hlo)) I (dX I (tJ I I ir I I I Zb) I (Q3 ?_)));rintro _ _ ⟨b71,rfl,rfl⟩;refine dZ ?_;refine lv I I (dQ I (λ_ _=>I) (λw hi=>pC (sA b71) 2 [(2,((a%300:Nat):Int)),(lop,0)] cE w (hi.rd (Ur (slv 51 2 (sA b71) 2 2 ([(2,((a%300:Nat):Int)),(lop,0)].flatMap iP)))))) ZJ I ?_;exact Yy
  refine Ul ?_ ?_<;>intro hc14
  .refine Ut ?_;refine Zy (fH (Zv I) (Zv I) O (show _=((a%13:Nat):Int)from by rw[aw O];omega)) ?_;refine Zy (fL (Zv I) (Zv I) (show _=((a%13*4:Nat):Int)from by rw[u32_wrap_id _ O O];omega)) ?_;refine Zy (dr (Zv I) (Zv I) (show _=((32768+a%13*4:Nat):Int)from by rw[u32_wrap_id _ O O];omega)) ?_;refine mR ?_;refine UA ?_;refine Zy (fH (Zv I) (Zv I) O (show _=((v%3:Nat):Int)from by rw[aw O];omega)) ?_;refine Vs ?_ ?_<;>intro hc16
   .refine Ut ?_;refine y6 ?_;rintro _ _ ⟨b89,rfl,rfl⟩;refine UW (λw hi=>pC (sA b89) 2 [(2,((32768+a%13*4:Nat):Int)),(48,0)] cE w (hi.rd (Ur (slv 51 2 (sA b89) 2 2 ([(2,((32768+a%13*4:Nat):Int)),(48,0)].flatMap iP))))) ?_;exact XF
   refine Ut ?_;refine Rf ?_;refine Us ?_;refine y6 ?_;rintro _ _ ⟨b99,rfl,rfl⟩;refine UW (λw hi=>pC (sA b99) 3 [(1,((v%256:Nat):Int)),(2,((32768+a%13*4:Nat):Int)),(49,0)] cE w (hi.rd (Ur (slv 51 2 (sA b99) 3 3 ([(1,((v%256:Nat):Int)),(2,((32768+a%13*4:Nat):Int)),(49,0)].flatMap iP))))) ?_;exact XF
  refine Ul ?_ ?_<;>intro hc19
  .refine Ut ?_;refine Rf ?_;refine Us ?_;refine Zy (fH (Zv I) (Zv I) O (show _=((a%12:Nat):Int)from by rw[aw O];omega)) ?_;refine ZA ?_;refine y6 ?_;rintro _ _ ⟨b113,rfl,rfl⟩;refine UW (λw hi=>pC (sA b113) 2 [(1,((v%256:Nat):Int)),(67,((a%12:Nat):Int))] cE w (hi.rd (Ur (slv 51 2 (sA b113) 2 2 ([(1,((v%256:Nat):Int)),(67,((a%12:Nat):Int))].flatMap iP))))) ?_;exact XF
  refine Ul ?_ ?_<;>intro hc21
  .refine Ut ?_;refine UD (λw hi=>HCut w) ?_;refine gJ (cu (e:=5) (sz:=1) (bytes:=1) I I Za I I (λw hi=>hb9.SS hi) cP gI O) I ?_;rintro _ _ ⟨A3,c3,rfl,rfl⟩;refine M6 ?_;exact Wx2_
  refine Ul ?_ ?_<;>intro hc23
  .refine ik (UK [12]) [(0,0),(1,0),(2,4),(3,0),(4,0),(5,0),(6,4),(7,0),(8,4),(9,2),(10,2),(11,2),(12,2),(13,0)] Zk Zk (mK ?_);refine dX I (dq 2 I ne Zf) I (Nt ?_);refine dX I (fH (Zv I) (Zv I) O (show _=((v%256:Nat):Int)from by rw[aw O];omega)) rfl (dX rfl (tJ rfl rfl ir rfl rfl rfl Zb) rfl (dX rfl (dq 1 rfl ne Zf) rfl (Nt ?_)));refine dX I (dq 3 I ne Zf) I (Nt ?_);refine dZ ?_;refine lv I I (dQ I (λ_ _=>I) (λw hi=>HI1 w)) ZJ I ?_;rintro _ _ ⟨_,⟨⟨op,nn,rfl,hnu, -⟩,rfl⟩,rfl⟩;refine Q3 ?_;rintro _ _ ⟨b135,rfl,rfl⟩;refine dZ ?_;refine lv I I (dQ I (λ_ _=>I) (λw hi=>pC (sA b135) 2 [(1,((v%256:Nat):Int)),(op,nn)] cE w (hi.rd (Ur (slv 51 2 (sA b135) 2 2 ([(1,((v%256:Nat):Int)),(op,nn)].flatMap iP)))))) ZJ I ?_;exact Yy
  refine UA ?_;refine UW (λw hi=>HI2 w) ?_;rintro _ _ ⟨⟨op,nn,rfl,hnu, -⟩,rfl⟩;refine y6 ?_;rintro _ _ ⟨b42,rfl,rfl⟩;refine UW (λw hi=>pC (sA b42) 1 [(op,nn)] cE w (hi.rd (Ur (slv 51 2 (sA b42) 1 1 ([(op,nn)].flatMap iP))))) ?_;exact XF
 refine fo ?_;refine Vd ([slv _ _ _ _ _ _]) ?_;exact⟨A1,c1,o,⟨ho1,by omega⟩,rfl,rfl⟩
theorem Fi(A B:Oa)(c e:Nat)(l:List zf)(SC:Int)(k:Li)(hk:UO k)(w:World)(h:UJ w 5 A (J l) c (l.flatMap zf.cells))(hl:∀a,a∈l->a.ok w)(hB:Rd w .u8 B (J k) e k):
  Uz prog 32 [.slice A (J l) c,.i SC,.slice B (J k) e] w [] (λv cs=>∃(A':Oa) (c':Nat) (E E2:Li) (n:Nat),(UO E/\(1<=n/\n<=16)/\J (E.take (n*64))<=n*64)/\v=Xh A' c' (E.take (n*64)) B e (k.take 1024) n/\cs=[sl .u8 5 A' (J E) c' E]):=by
 have HP:=Kk A c l;obtain⟨m,hm⟩:=Uk (gi SC 0 15);have hmr:=kg SC 0 15 An;rw[hm]at hmr;have HW:=λw=>hm▸lL SC 0 15 w An An An
 obtain⟨n0,rfl⟩:∃q:Nat,m=q:=ai hmr.1;have HK:=λw=>FR B e k 1024 w hB.cap
 refine UB func32 ntmps32 ?_;refine py ?_;refine ZN λb6=>?_;refine Uu ?_;refine UD (λw hi=>HW w) ?_;refine Zy (dr (Zv I) (Zv I) (show _=((1+n0:Nat):Int)from by rw[aN _ ⟨by omega,by omega⟩];omega)) ?_;refine UA ?_;refine UW (λw hi=>HP w (h.SS hi) (λa ha=>⟨(hl a ha).v,(hl a ha).at_,(hl a ha).rd.SS hi,(hl a ha).bs⟩)) ?_;rintro _ _ ⟨A1,c1,E,⟨hE1,hE2⟩,rfl,rfl⟩;refine ZA ?_;refine Zy (fL (Zv I) (Zv I) (show _=(((1+n0)*64:Nat):Int)from by rw[aN _ ⟨by omega,by omega⟩];omega)) ?_;refine UD (λw hi=>FR A1 c1 E ((1+n0)*64) w (hi.rd (Ur (sl .u8 5 A1 (J E) c1 E))).cap) ?_;refine ZA ?_;refine UD (λw hi=>HK w) ?_;refine py ?_;refine kQ ?_;exact bI [row b6 [.slice A1 (J (E.take ((1+n0)*64))) c1,.slice B (J (k.take 1024)) e,.i ((1+n0:Nat):Int)] 27,sl .u8 5 A1 (J E) c1 E] Zj (mz (cs':=[sl .u8 5 A1 (J E) c1 E]) (.inl I) Zu I I Zh ir ir ⟨A1,c1,E,[],1+n0,⟨hE1,⟨by omega,by omega⟩,by rw[aU];omega⟩,rfl,rfl⟩)
variable{n:Nat}{d:Un}
theorem Vy.ok.view{n:Nat}{G:Vy}(h:G.ok n)(ho:UO G.d.out):G.view.wf:=⟨h.g.wf,h.g.u.m.db,ho,h.g.dv.wf.T4,h.g.dv.wf.Tw⟩
theorem Fv(bp o n:Nat)(W:Li)(hW:J W=16384)(ho:o<4)(hn0:1<=n)(hn:n<=64)(A B:Oa)(c e:Nat)(l k:Li)(hll:J l<=n*64)(hlb:UO l)(hkl:J k<=1024)(hkb:UO k)(tr:Bool)(w:World)(hi:Inv w (bK [dF bp W (R9 256 (-1)) (R9 4 (-1))]) [dF bp W (R9 256 (-1)) (R9 4 (-1))] w)
  (hA:∀w',cX (bK [dF bp W (R9 256 (-1)) (R9 4 (-1))]) w w'->Rd w' .u8 A (J l) c l) (hB:∀w',cX (bK [dF bp W (R9 256 (-1)) (R9 4 (-1))]) w w'->Rd w' .u8 B (J k) e k):
  Uz prog 66 [.p bp,.i o,Xh A c l B e k n,.bool tr] w [dF bp W (R9 256 (-1)) (R9 4 (-1))] (λv cs=>∃H G,Xo bp o n W (R9 256 (-1)) (R9 4 (-1)) l k tr H G/\v= .tuple #[.p H.bg,.i 0]/\cs=UY H G):=
 LC bp W (R9 256 (-1)) (R9 4 (-1)) ⟨hW,aB,aB⟩ o n ho hn0 hn Do (by rw[show gQ (R9 4 (-1)) 4=0 from I];omega) (λx hx=>by grind) (λx hx=>by grind) (by rw[free0];omega) A B c e l k hll hlb hkl hkb tr w hi hA hB
theorem My(n:Nat)(hn0:1<=n)(hn:n<=64)(A B:Oa)(c e:Nat)(l k:Li)(hll:J l<=n*64)(hlb:UO l)(hkl:J k<=1024)(hkb:UO k)(tr:Bool)(w:World)(hA:Rd w .u8 A (J l) c l)(hB:Rd w .u8 B (J k) e k):
  Uz prog 34 [Xh A c l B e k n,.bool tr] w [] (λv cs=>∃H G R,Xo H.L.bp 2 n (R9 16384 0) (R9 256 (-1)) (R9 4 (-1)) l k tr H G/\v= .tuple #[.p H.bg,.p R.bg,.p H.L.bp]/\cs=UY H G++docF R n l k):=by
 have HF:=LO;have HN:=λbp w hi hA hB=>Fv bp 2 n (R9 16384 0) aB An hn0 hn A B c e l k hll hlb hkl hkb tr w hi hA hB
 have HD:=un A B c e n l k hn hll hkl;obtain⟨W0,hW0⟩:=Uk (R9 256 (-1:Int));obtain⟨B0,hB0⟩:=Uk (R9 16384 (0:Int));obtain⟨P0,hP0⟩:=Uk (R9 4 (-1:Int));obtain⟨d,hd⟩:=Uk (Un.init k);obtain⟨data,hda⟩:=Uk (nq n l);obtain⟨tu,htu⟩:=Uk (R9 n false);obtain⟨T0,hTT⟩:=Uk (dA);unfold docF;rw[hB0,hW0,hP0]at HF HN|-;rw[hd,hda,htu,hTT]at HD|-;refine UB func34 ntmps34 ?_;refine py ?_;refine ZO λb2=>?_;refine Ux ?_;refine UW (λw hi=>HF w) ?_;rintro _ _ ⟨bp,rfl,rfl⟩;refine eK ?_;refine jn ?_;refine Uu ?_;refine dW (cj (vs:=[.slice A (J l) c,.slice B (J k) e,.i (n:Int)]) ir ir ne) (cI Zh I) I (ZA ?_);refine dE ([dF bp B0 W0 P0]) (λw hi hin=>HN bp w hin (λw' hk=>UJ.S4 hA hi Zi hk) (λw' hk=>UJ.S4 hB hi Zi hk)) ?_;rintro _ _ ⟨H,G,hBo,rfl,rfl⟩;obtain rfl:H.L.bp=bp:=hBo.hbp;refine qB ?_;refine Uu ?_;refine dW (cj (vs:=[.slice A (J l) c,.slice B (J k) e,.i (n:Int)]) ir ir ne) (cI Zh I) I (UW (λw hi=>HD w (hA.SS hi) (hB.SS hi)) ?_);rintro _ _ ⟨bg,K,bx,by_,bd,rfl,rfl⟩;refine Ux ?_;exact bI (UY H G++(row bg (St.new.cells (.slice none 0 0) (.slice none 0 0)++[.p bx,.p by_]) 41::(oM K n data tu++[fw bx K.bm T0]++eW by_ K.bm bd ⟨none,0,none,0⟩ d))) Zj (ret3 (cs':=(UY H G++(row bg (St.new.cells (.slice none 0 0) (.slice none 0 0)++[.p bx,.p by_]) 41::(oM K n data tu++[fw bx K.bm T0]++eW by_ K.bm bd ⟨none,0,none,0⟩ d)))) (.inl I) Zu I I I I ⟨H,G,⟨bg,K,bx,by_,bd⟩,hBo,I,I⟩)
end
end Go.Ink
namespace Go.Ink
open List renaming length→J
open IntKind renaming wrap→V9
open Go.RowKit Go.Proofs.Tryz
variable{x:Value}{i:Nat}
section
attribute [local irreducible] UL bM
variable{n v p:Nat}
theorem z9(br:Nat)(X:eN)(R:Um)(dv:Bool)(op n:Int)(h0:0<=op)(h8:op<=8)(hd:J R.s.d<=100000)(hr:J R.s.r<=100000)(hn:(bR op).1.1<=J R.s.d)(hnr:(bR op).2.1<=J R.s.r):CI prog 212 [.p br,.agg #[.i op,.w n]] (VC br X R.s dv) (λv cs=>∃X',v= .tuple #[]/\cs=VC br X' ((cV op n R).getD R).s dv):=λw hi=>by
 obtain⟨Ad,cd,Ar,cr⟩:=X;refine UH func212 ntmps212 hi ?_;refine py ?_;refine ZO λb3=>?_;refine Us ?_;refine B7 ?_;refine Ld 2 1 ?_;refine sP ?_;refine ZE 6 ?_;refine Ld 7 2 ?_;refine ZG 8 ?_;refine qE ?_;refine fe ?_;refine oQ ?_;refine ZW ?_ ?_<;>intro hc3
 .obtain rfl:=gO hc3;have hst:cV 1 n R=some (R.push [n]):=rfl;refine py ?_;refine bV I (hc3) (bN (UK [8,11]) Zk (y5 ?_));exact Wx15_
 refine VQ ?_ ?_<;>intro hc4
 .obtain rfl:=gO hc4;have hst:cV 2 n R=some (R.push [n]):=rfl;refine bN (UK [8,11]) Zk (y5 ?_);exact Wx15_
 refine Ul ?_ ?_<;>intro hc6
 .obtain rfl:=gO hc6;obtain⟨R,l,x,rfl⟩:=Um.snoc (show 1<=J R.s.d from hn);have hst:=mq n R l x;have hlen:J (l++[x])=J l+1:=cE;have hdl:(R.wd (l++[x])).s.d.length=J l+1:=hlen;refine eo (λw hi=>dp (hi.get (Ur (UP (R.wd (l++[x])).s Ad cd))) (show 0<J (l++[x]) by omega)) (λhA=>?_);obtain⟨bd,rfl⟩:=hA;refine bN (UK [14,17]) Zk (Im ?_);refine Ld 7 1 ?_;refine QO ?_;refine fS ?_;refine pE ?_;refine ZV ?_;rintro _ _ ⟨b47,rfl,rfl⟩;refine cQ 14 Zk (jX I I (cu (e:=32) (sz:=1) (bytes:=4) I I Za I I (λw hi=>hi.rd (Ur (slv 32 1 (sA b47) 1 1 (ints .u32 [x])))) cP gI O) ZJ I ?_);rintro _ _ ⟨A',c',rfl,rfl⟩;refine QQ ?_;refine Zo (gK (cs':=[row _ _ _,slv _ _ _ _ _ _,slv _ _ _ _ _ _]) (.inr I) Zu I ?_);rw[hst];refine⟨⟨A',c',Ar,cr⟩,I,?_⟩;show _=VC br ⟨A',c',Ar,cr⟩ (R.wd (l++[x,x])).s dv;rw[show l++[x,x]=(l++[x])++[x] by simp];exact IB
 refine Ul ?_ ?_<;>intro hc8
 .obtain rfl:=gO hc8;obtain⟨R,l,x,rfl⟩:=Um.snoc (show 1<=J R.s.d from hn);have hst:=la n R l x;have hlen:J (l++[x])=J l+1:=cE;have hdl:(R.wd (l++[x])).s.d.length=J l+1:=hlen;refine eo (λw hi=>dp (hi.get (Ur (UP (R.wd (l++[x])).s Ad cd))) (show 0<J (l++[x]) by omega)) (λhA=>?_);obtain⟨bd,rfl⟩:=hA;refine eo (λw hi=>(ee (hi.get (Ur (UP (R.wd (l++[x])).s (sA bd) cd)))).cap) (λhcap=>?_);have hcap:J (l++[x])<=cd:=hcap;have hcap2:J (l++[x])<=(eN.mk (some ⟨bd,0,none⟩) cd Ar cr).cd:=hcap;refine Ux ?_;refine Sr ?_;refine Sq ?_;refine py ?_;refine Rm ?_;refine Nb ?_;rw[hst];exact⟨⟨some ⟨bd,0,none⟩,cd,Ar,cr⟩,I,I⟩
 refine Ul ?_ ?_<;>intro hc10
 .obtain rfl:=gO hc10;obtain⟨R,l,x,y,rfl⟩:=Um.Tp (show 2<=J R.s.d from hn);have hst:=k8 n R l x y;have hlen:J ((l++[x])++[y])=J l+2:=cE;have hdl:(R.wd ((l++[x])++[y])).s.d.length=J l+2:=hlen;refine eo (λw hi=>dp (hi.get (Ur (UP (R.wd ((l++[x])++[y])).s Ad cd))) (show 0<J ((l++[x])++[y]) by omega)) (λhA=>?_);obtain⟨bd,rfl⟩:=hA;refine bN (UK [29,31]) Zk (mW ?_);refine Ld 2 1 ?_;refine ZG 3 ?_;refine ZE 4 ?_;refine UF 5 I (eA (Zv I) (Zv I) (show _=((J l+1:Nat):Int)from by rw[hdl];exact aN _ ⟨by omega,by omega⟩|>.trans O)) ?_;refine ZE 6 ?_;refine ZE 7 ?_;refine Ld 8 1 ?_;refine ZG 9 ?_;refine Wq402 ?_;refine rJ ?_;refine Ld 14 1 ?_;refine ZG 15 ?_;refine ZE 16 ?_;refine UF 17 I (eA (Zv I) (Zv I) (show _=(J l:Int)from by rw[hdl];exact aN _ ⟨by omega,by omega⟩|>.trans O)) ?_;refine UF 18 I (bW (j:=J l) (sz:=1) (r:=J l) I ir (Zv I) (Zv I) Uq Uq O) ?_;refine US 19 I (bL ir ne) (cN Zh (bX (lR l x y))) ?_;refine ZE 20 ?_;refine ZE 21 ?_;refine Ld 22 1 ?_;refine ZG 23 ?_;refine ZE 24 ?_;refine UF 25 I (eA (Zv I) (Zv I) (show _=((J l+1:Nat):Int)from by rw[hdl];exact aN _ ⟨by omega,by omega⟩|>.trans O)) ?_;refine UF 26 I (bW (j:=(J l+1)) (sz:=1) (r:=(J l+1)) I ir (Zv I) (Zv I) Uq Uq O) ?_;refine US 27 I (bL ir ne) (cN Zh (bX (lQ l x y))) ?_;refine UF 28 I (bW (j:=(J l+1)) (sz:=1) (r:=(J l+1)) I ir (Zv I) (Zv I) Uq Uq O) ?_;refine cQ 29 Zk (DY ?_);refine Uw ?_;refine UF 30 I (bW (j:=J l) (sz:=1) (r:=J l) I ir (Zv I) (Zv I) Uq Uq O) ?_;refine cQ 31 Zk (DY ?_);refine Uw ?_;rw[eh,eh,show((R.wd ((l++[x])++[y])).s.d.set (J l+1) x).set (J l) y=l++[y,x]from N1 l x y];refine fe ?_;refine Zo (gK (cs':=[row _ _ _,slv _ _ _ _ _ _,slv _ _ _ _ _ _]) (.inr I) Zu I ?_);rw[hst];refine⟨⟨some ⟨bd,0,none⟩,cd,Ar,cr⟩,I,?_⟩;show _=VC br ⟨some ⟨bd,0,none⟩,cd,Ar,cr⟩ (R.wd (l++[y,x])).s dv;simp only[VC,zW,UP,UU,ar,aE,bC,bA,Nat.add_assoc,Nat.reduceAdd]
 refine Ul ?_ ?_<;>intro hc12
 .obtain rfl:=gO hc12;obtain⟨R,l,x,y,rfl⟩:=Um.Tp (show 2<=J R.s.d from hn);have hst:=k9 n R l x y;have hlen:J ((l++[x])++[y])=J l+2:=cE;have hdl:(R.wd ((l++[x])++[y])).s.d.length=J l+2:=hlen;refine eo (λw hi=>dp (hi.get (Ur (UP (R.wd ((l++[x])++[y])).s Ad cd))) (show 0<J ((l++[x])++[y]) by omega)) (λhA=>?_);obtain⟨bd,rfl⟩:=hA;refine bN (UK [14,17]) Zk (Im ?_);refine Ld 7 1 ?_;refine QO ?_;refine fS ?_;refine pE ?_;refine IC ?_;refine cQ 12 Zk (vQ I (bL ir ne) (cN Zh (bX (lR l x y))) I (cQ 13 Zk (vO ?_)));rintro _ _ ⟨b110,rfl,rfl⟩;refine cQ 14 Zk (jX I I (cu (e:=32) (sz:=1) (bytes:=4) I I Za I I (λw hi=>hi.rd (Ur (slv 32 1 (sA b110) 1 1 (ints .u32 [x])))) cP gI O) ZJ I ?_);rintro _ _ ⟨A',c',rfl,rfl⟩;refine QQ ?_;refine Zo (gK (cs':=[row _ _ _,slv _ _ _ _ _ _,slv _ _ _ _ _ _]) (.inr I) Zu I ?_);rw[hst];refine⟨⟨A',c',Ar,cr⟩,I,?_⟩;show _=VC br ⟨A',c',Ar,cr⟩ (R.wd (l++[x,y,x])).s dv;rw[show l++[x,y,x]=((l++[x])++[y])++[x] by simp];exact IB
 refine Ul ?_ ?_<;>intro hc14
 .obtain rfl:=gO hc14;obtain⟨R,l,x,rfl⟩:=Um.snoc (show 1<=J R.s.d from hn);have hst:=mn n R l x;have hlen:J (l++[x])=J l+1:=cE;have hdl:(R.wd (l++[x])).s.d.length=J l+1:=hlen;have hrr:J R.s.r<=100000:=hr;have hrr2:(R.wd (l++[x])).s.r.length<=100000:=hr;refine eo (λw hi=>dp (hi.get (Ur (UP (R.wd (l++[x])).s Ad cd))) (show 0<J (l++[x]) by omega)) (λhA=>?_);obtain⟨bd,rfl⟩:=hA;refine eo (λw hi=>(ee (hi.get (Ur (UP (R.wd (l++[x])).s (sA bd) cd)))).cap) (λhcap=>?_);have hcap:J (l++[x])<=cd:=hcap;have hcap2:J (l++[x])<=(eN.mk (some ⟨bd,0,none⟩) cd Ar cr).cd:=hcap;refine Zs (bN (UK [14,17]) Zk ?_);refine MV ?_;refine Ld 7 1 ?_;refine QO ?_;refine fS ?_;refine pE ?_;refine ZV ?_;rintro _ _ ⟨b129,rfl,rfl⟩;refine cQ 14 Zk (jX I I (cu (e:=32) (sz:=1) (bytes:=4) I I Za I I (λw hi=>hi.rd (Ur (slv 32 1 (sA b129) 1 1 (ints .u32 [x])))) cP gI O) ZJ I ?_);rintro _ _ ⟨A',c',rfl,rfl⟩;refine ZE 15 ?_;refine Ld 16 2 ?_;refine cQ 17 Zk (ke ?_);refine UG ?_;refine Sr ?_;refine Sq ?_;refine py ?_;refine Rm ?_;refine Nb ?_;rw[hst];refine⟨⟨some ⟨bd,0,none⟩,cd,A',c'⟩,I,?_⟩;show _=VC br ⟨some ⟨bd,0,none⟩,cd,A',c'⟩ ((R.wd l).wr (R.s.r++[x])).s dv;exact IB
 refine Ul ?_ ?_<;>intro hc17
 .obtain rfl:=gO hc17;obtain⟨R,l,x,rfl⟩:=Um.TU (show 1<=J R.s.r from hnr);have hst:=jZ n R l x;have hlen:J (l++[x])=J l+1:=cE;have hdl:(R.wr (l++[x])).s.r.length=J l+1:=hlen;have hdd:J R.s.d<=100000:=hd;have hdd2:(R.wr (l++[x])).s.d.length<=100000:=hd;refine eo (λw hi=>dp (hi.get (Ur (UU (R.wr (l++[x])).s Ar cr))) (show 0<J (l++[x]) by omega)) (λhA=>?_);obtain⟨bd,rfl⟩:=hA;refine eo (λw hi=>(ee (hi.get (Ur (UU (R.wr (l++[x])).s (sA bd) cr)))).cap) (λhcap=>?_);have hcap:J (l++[x])<=cr:=hcap;have hcap2:J (l++[x])<=(eN.mk Ad cd (some ⟨bd,0,none⟩) cr).cr:=hcap;refine Zs (bN (UK [14,17]) Zk ?_);refine Im ?_;refine Ld 7 2 ?_;refine QO ?_;refine fS ?_;refine pE ?_;refine ZV ?_;rintro _ _ ⟨b158,rfl,rfl⟩;refine cQ 14 Zk (jX I I (cu (e:=32) (sz:=1) (bytes:=4) I I Za I I (λw hi=>hi.rd (Ur (slv 32 1 (sA b158) 1 1 (ints .u32 [x])))) cP gI O) ZJ I ?_);rintro _ _ ⟨A',c',rfl,rfl⟩;refine QQ ?_;refine UG ?_;refine Sr ?_;refine Sq ?_;refine py ?_;refine ZH ?_;refine Nb ?_;rw[hst];refine⟨⟨A',c',some ⟨bd,0,none⟩,cr⟩,I,?_⟩;show _=VC br ⟨A',c',some ⟨bd,0,none⟩,cr⟩ ((R.wr l).wd (R.s.d++[x])).s dv;exact IB
 simp only[bE,ne_eq]at hc3 hc4 hc6 hc8 hc10 hc12 hc14 hc17;obtain rfl:op=0:=O;have hst:cV 0 n R=some R:=rfl;refine py ?_;refine Nb ?_;rw[hst];exact⟨⟨Ad,cd,Ar,cr⟩,I,I⟩
theorem GO(br:Nat)(X:eN)(R:Um)(dv:Bool)(op n:Int)(hnu:u32 n)(h32:32<=op)(h40:op<=40)(hd:J R.s.d<=100000)(hr:J R.s.r<=100000)(hn:(bR op).1.1<=J R.s.d)(hnr:(bR op).2.1<=J R.s.r):CI prog 214 [.p br,.agg #[.i op,.w n]] (VC br X R.s dv) (λv cs=>∃X',v= .tuple #[]/\cs=VC br X' (bS op n R).2.s dv):=λw hi=>by
 obtain⟨Ad,cd,Ar,cr⟩:=X;have hno:(decide (16<=op)&&decide (op<=25))=false:=by rw[Bool.and_eq_false_iff,aa,aa];omega
 have HH:=CJ op R.s.flags;obtain⟨⟨go,gk⟩,hgo⟩:=Uk (cZ op R.s.flags);rw[hgo]at HH;have HS:=GK n hnu;have hth:V9 .u32 (R.s.pc+jC n)=fW R n:=rfl;refine UH func214 ntmps214 hi ?_;refine py ?_;refine ZO λb3=>?_;refine fo ?_;refine sS ?_;refine vH ?_;refine ZE 2 ?_;refine ZE 3 ?_;refine Ld 4 3 ?_;refine ZG 5 ?_;refine cQ 6 Zk (VF (λw hi=>HH w) ?_);refine Uw ?_;refine ZE 7 ?_;refine ZE 8 ?_;refine qE ?_;refine sR ?_;refine cq (λq:Bool×eN×Um=>[(0,.p br),(3,.p b3),(4,.w R.s.pc),(5,.bool q.1)]) (λq=>VC br q.2.1 q.2.2.s dv++[row b3 [.i op,.w n] 51]) (λq=>(bS op n R).2.s=(bif q.1 then(q.2.2.wpc (fW R n)).s else q.2.2.s)) ?_ ?_
 .refine iR ?_;refine ZW ?_ ?_<;>intro hc4
  .obtain rfl:=gO hc4;obtain⟨R,l,x,rfl⟩:=Um.TU (show 1<=J R.s.r from hnr);have hst:(bS 39 n (R.wr (l++[x]))).2=(R.wr l).wpc x:=(by show((R.wr (l++[x])).Ti).wpc (R.wr (l++[x])).topR=_;rw[Um.popR_wr,Um.topR_wr]);have hlen:J (l++[x])=J l+1:=cE;have hdl:(R.wr (l++[x])).s.r.length=J l+1:=hlen;refine eo (λw hi=>dp (hi.get (Ur (UU (R.wr (l++[x])).s Ar cr))) (show 0<J (l++[x]) by omega)) (λhA=>?_);obtain⟨bd,rfl⟩:=hA;refine eo (λw hi=>(ee (hi.get (Ur (UU (R.wr (l++[x])).s (sA bd) cr)))).cap) (λhcap=>?_);have hcap:J (l++[x])<=cr:=hcap;have hcap2:J (l++[x])<=(eN.mk Ad cd (some ⟨bd,0,none⟩) cr).cr:=hcap;refine Zs (bN (UK [15]) Zk ?_);refine MV ?_;refine Ld 7 2 ?_;refine ZG 8 ?_;refine QO ?_;refine Wq424 ?_;refine ZQ ?_;refine pI ?_;refine bN (UK [14]) Zk (MV ?_);refine Ld 7 2 ?_;refine ZG 8 ?_;refine QO ?_;refine UF 11 I (eO (J l) I ir (Zv I) (Zv I) qD Uq) ?_;refine ZE 12 ?_;refine Ld 13 2 ?_;refine cQ 14 Zk (ke ?_);refine Ut ?_;refine ZH ?_;refine gK (cs':=[row _ _ _,slv _ _ _ _ _ _,slv _ _ _ _ _ _]) (.inl I) Zu I ?_;rw[hst];exact⟨⟨Ad,cd,some ⟨bd,0,none⟩,cr⟩,I,I⟩
  refine Ul ?_ ?_<;>intro hc7
  .obtain rfl:=gO hc7;obtain⟨R,l,x,rfl⟩:=Um.snoc (show 1<=J R.s.d from hn);have hst:(bS 40 n (R.wd (l++[x]))).2=(R.wd l).wpc x:=(by show((R.wd (l++[x])).pop).wpc (R.wd (l++[x])).top=_;rw[Um.pop_wd,Um.top_wd]);have hlen:J (l++[x])=J l+1:=cE;have hdl:(R.wd (l++[x])).s.d.length=J l+1:=hlen;refine eo (λw hi=>dp (hi.get (Ur (UP (R.wd (l++[x])).s Ad cd))) (show 0<J (l++[x]) by omega)) (λhA=>?_);obtain⟨bd,rfl⟩:=hA;refine eo (λw hi=>(ee (hi.get (Ur (UP (R.wd (l++[x])).s (sA bd) cd)))).cap) (λhcap=>?_);have hcap:J (l++[x])<=cd:=hcap;have hcap2:J (l++[x])<=(eN.mk (some ⟨bd,0,none⟩) cd Ar cr).cd:=hcap;refine Zs (bN (UK [15]) Zk ?_);refine Im ?_;refine Ld 7 1 ?_;refine ZG 8 ?_;refine QO ?_;refine Wq424 ?_;refine ZQ ?_;refine pI ?_;refine bN (UK [14]) Zk (Im ?_);refine Ld 7 1 ?_;refine ZG 8 ?_;refine QO ?_;refine UF 11 I (eO (J l) I ir (Zv I) (Zv I) qD Uq) ?_;refine ZE 12 ?_;refine Ld 13 1 ?_;refine cQ 14 Zk (ke ?_);refine Ut ?_;refine Rm ?_;refine gK (cs':=[row _ _ _,slv _ _ _ _ _ _,slv _ _ _ _ _ _]) (.inl I) Zu I ?_;rw[hst];exact⟨⟨some ⟨bd,0,none⟩,cd,Ar,cr⟩,I,I⟩
  refine Ul ?_ ?_<;>intro hc10
  .obtain rfl:=gO hc10;refine UG ?_;refine jP ?_;rintro _ _ ⟨b93,rfl,rfl⟩;refine gJ (cu (e:=32) (sz:=1) (bytes:=4) I I Za I I (λw hi=>hi.rd (Ur (slv 32 1 (sA b93) 1 1 (ints .u32 [R.s.pc])))) cP gI O) I ?_;rintro _ _ ⟨A',c',rfl,rfl⟩;refine jD ?_;refine UA ?_;refine r8 ((true,⟨Ad,cd,A',c'⟩,R.TY R.s.pc)) ?_ ?_ ?_
   .exact I
   .exact XK
   exact(show zh (VC br ⟨Ad,cd,A',c'⟩ (R.wr (R.s.r++[R.s.pc])).s dv++[row b3 [.i 38,.w n] 51]) _ from by simp only[VC,zW,UP,UU,ar,bY,aE,bC,bA];exact Zj)
  refine Ul ?_ ?_<;>intro hc13
  .obtain rfl:=gO hc13;refine Ut ?_;refine UN ((true,⟨Ad,cd,Ar,cr⟩,R)) I
  have hst:bS op n R=(gk,bif go then R.wpc (fW R n)else R):=(by unfold bS;rw[hno,hc4,hc7,hc10,hc13,hgo];rfl);refine py ?_;refine UN ((go,⟨Ad,cd,Ar,cr⟩,R)) ?_;dsimp only;rw[hst];cases go<;>rfl
 rintro⟨g,X',R'⟩ hq;dsimp only at hq|-;rw[hq];refine VQ ?_ ?_<;>intro hc15
 .subst hc15;refine Uu ?_;refine UD (λw hi=>HS w) ?_;refine Zy (dr ne ne hth) ?_;refine jD ?_;refine Zn (gK (cs':=[row _ _ _,slv _ _ _ _ _ _,slv _ _ _ _ _ _]) (.inr I) Zu I ?_);exact⟨X',I,I⟩
 subst hc15;refine Zc (gK (cs':=[row _ _ _,slv _ _ _ _ _ _,slv _ _ _ _ _ _]) (.inr I) Zu I ?_);exact⟨X',I,I⟩
theorem jo{w:World}{S:List Nat}{cs:List bH}{c j:Nat}{ad:Addr}{xs:List Value}{v:Value}(h:∀w',cX S w w'->UJ w' 1 (some ad) n c xs)(hv:xs[j]? =some v):∀w',Inv w S cs w'->cells [(ad.add (j*1),v)] w':=λw' hi z hz=>by
 rw[aQ]at hz;subst hz;rw[Nat.mul_one];exact(h w' hi.S1).at_ ad I j v hv
theorem Sf(h:nU n v (p:Int))(hn:n<=64):(!decide (p+1<=n*64))=decide ((32768:Int)<=(p:Int)):=by
 rcases h.r with h1|h1
 .rw[ak (show p+1<=n*64 by omega),ao O];rfl
 unfold iv at h1;simp only[aC,ah]at h1;rw[ao (show¬(p+1<=n*64) by omega),ak h1.1];rfl
section
variable{n:Nat}{R:Um}{U U':Uo}{d:Un}{va v:Nat}{p:Nat}{tr:Tr}
theorem wA(h:(((va%4:Nat):Int) !=0)=true):eM n R U d va v=⟨R.wt ⟨6,va⟩,U,d⟩:=by
 unfold eM bZ;rw[h]
 rfl
theorem tW(h:(((va%4:Nat):Int) !=0)=false)(hp:Sz n U R.sp va 3=(((p:Int),tr),U'))(hc:(tr.SB !=0)=true):eM n R U d va v=⟨R.wdv tr false,U',d⟩:=by
 have e:(tr.SB==0)=false:=by simpa using hc
 unfold eM bZ;rw[h,hp];simp only[ac,e,Bool.not_false,ae,bn]
theorem zL(h:(((va%4:Nat):Int) !=0)=false)(hp:Sz n U R.sp va 3=(((p:Int),Tr.none),U')):eM n R U d va v=bif decide ((32768:Int)<=(p:Int))then⟨bif !(bQ n U'.m d (iV p) v).1 then(R.wdv Tr.none true).wt ⟨10,va⟩else R.wdv Tr.none true,⟨(bQ n U'.m d (iV p) v).2.1,U'.t⟩,(bQ n U'.m d (iV p) v).2.2⟩else⟨R.wdv Tr.none false,⟨U'.m.Tm p v,U'.t⟩,d⟩:=by
 have e:(Tr.none.SB==0)=true:=rfl;unfold eM bZ;exact Wx85_
end
def IE(br:Nat)(K:gb)(bx n b bd:Nat)(m:ek)(v:Value)(cs:List bH):Prop:=
 ∃X' x' Z',v= .tuple #[.i m.r.SL.SB,.w m.r.SL.addr]/\cs=U8 br X' x' m.r.device K bx n m.u b bd Z' m.d/\(m.r.SL.SB=0->x'=m.r.s)
theorem z8(br:Nat)(X:eN)(R:Um)(K:gb)(bx n:Nat)(U:Uo)(b bd:Nat)(Z:fv)(d:Un)(hM:UI n U.m)(hT:J U.t=16)(hd:d.wf)(pc nn:Int)(l:Li)(va:Nat)(hva:va<=4294967295)(hl:J l<=100000)(hroot:u32 R.s.root)(hdv:R.device=false)(hcn:R.count=R.s.count)
  (Ad Ar:Oa) (cd cr:Nat) (w:World) (hi:Inv w (bK (U8 br X (R.wd (l++[(va:Int)])).s false K bx n U b bd Z d)) (U8 br X (R.wd (l++[(va:Int)])).s false K bx n U b bd Z d) w)
  (h:∀w',cX (bK (U8 br X (R.wd (l++[(va:Int)])).s false K bx n U b bd Z d)) w w'->kS w' ((R.wd (l++[(va:Int)])).s.wpc pc) Ad Ar cd cr):
  Uz prog 275 [sv ((R.wd (l++[(va:Int)])).s.wpc pc) Ad cd Ar cr,.agg #[.i 48,.w nn],.p bx,.p b,.p br] w (U8 br X (R.wd (l++[(va:Int)])).s false K bx n U b bd Z d)
   (IE br K bx n b bd (eI n (R.wd l) U d va)):=by
 have hn:=hM.n64;obtain⟨rt,hrt⟩:∃m:Nat,R.s.root=m:=ai hroot.1;have hrt2:(rt:Int)<=4294967295:=by rw[<-hrt];exact hroot.2
 have hlen:J (l++[(va:Int)])=J l+1:=by simp
 have hdl:((R.wd (l++[(va:Int)])).s.wpc pc).d.length=J l+1:=hlen;have hdl2:(R.wd (l++[(va:Int)])).s.d.length=J l+1:=hlen;have hdl3:(⟨R.s.pc,l++[(va:Int)],R.s.r,R.s.flags,R.s.Sy,R.s.SJ,R.s.ie,R.s.root,R.s.vec,R.s.epc,R.s.SB,R.s.addr,R.s.SO,R.s.eie,R.s.count,R.s.halted⟩:St).d.length=J l+1:=hlen;obtain⟨ad,rfl⟩:=(h w (cX.refl _ _)).d.some_ (by rw[hdl];omega);have HP:=ky K bx n U hM hT R.s.SJ R.s.Sy rt va O hva 2;have hsp:(R.wd l).sp=⟨R.s.SJ,R.s.Sy,rt⟩:=by unfold Um.sp;exact QK
 have hpo:=eU n U ⟨R.s.SJ,R.s.Sy,rt⟩ va hva 2;have hto:=gq n U ⟨R.s.SJ,R.s.Sy,rt⟩ va 2;have hMo:=hM.Sz ⟨R.s.SJ,R.s.Sy,rt⟩ va 2 (hM.walk _ _ _ _);unfold IE;obtain⟨⟨⟨p,tr⟩,U'⟩,hp⟩:=Uk (Sz n U ⟨R.s.SJ,R.s.Sy,rt⟩ va 2);rw[hp]at HP hpo hto hMo;rw[<-hsp]at hp;rw[<-hrt]at HP;dsimp only at HP hpo hto hMo;obtain⟨p,rfl⟩:∃m:Nat,p=m:=ai hpo.1.1;have hpu:(p:Int)<=4294967295:=hpo.1.2;refine UH func275 ntmps275 hi ?_;refine py ?_;refine ZO λb5=>?_;refine ZO λb6=>?_
 refine jF ?_;refine Uu ?_;refine Sr ?_;refine Rt ?_;refine mU ?_;refine jn ?_;refine UA ?_;refine YX ?_;refine Vs ?_ ?_<;>intro hc7
 .rw[Hl hc7];refine UE ?_;refine WT ?_;refine⟨X,(R.wd (l++[(va:Int)])).s,Z,I,?_,λe=>by cases e⟩;show _=U8 br X (R.wd (l++[(va:Int)])).s R.device K bx n U b bd Z d;rw[hdv]
  rfl
 refine iR ?_;refine U5 (Vc K bx n U) (λw hi hin=>HP w hin) ?_;refine Us ?_;refine ZN λb17=>?_
 refine BY ?_;refine Uw ?_;refine oI ?_ ?_<;>intro hc10
 .rw[Ds hc7 hp hc10];refine Zs (bN (UK []) Zk ?_);refine vH ?_;refine Ld 2 1 ?_;refine sP ?_;refine fe ?_;refine Us ?_;refine bI (U8 br X (R.wd (l++[(va:Int)])).s false K bx n U' b bd Z d) Zj (WT ?_);exact⟨X,(R.wd (l++[(va:Int)])).s,Z,I,I,λe=>by(have e:tr.SB=0:=e;rw[e]at hc10;cases hc10)⟩
 obtain rfl:=hto (by simpa using hc10);have hP:=hpo.2 I;have hin4:p%64=va%64:=(by have:=hP.m;omega);have hva4:va%4=0:=(by have h1:((va%4:Nat):Int)=0:=(by simpa using hc7);omega);rw[KU hc7 hp];have hdn:=Sf hP hn;have hbig:¬(32768:Int)<=(p:Int)->p+4<=n*64:=(λhx=>by have:=pz (by unfold iv;rw[ao hx];rfl) hP;omega);refine UE ?_;refine YL ?_;refine ZA ?_;rw[hdn];obtain⟨dv,hdv2⟩:=Uk (decide ((32768:Int)<=(p:Int)));rw[hdv2];refine UE ?_;refine nQ ?_;refine mV ?_;refine UA ?_;refine cq (λq:(Int×Bool)×fv×Un=>[(12,.p br),(13,.i ((J l+1:Nat):Int)),(14,.w (va:Int)),(19,.w q.1.1),(20,.bool q.1.2)]) (λq=>U8 br X (R.wd (l++[(va:Int)])).s dv K bx n U' b bd q.2.1 q.2.2) (λq=>(bif dv then gL ⟨(p:Int),true,(R.wd l).wdv Tr.none true,U'⟩ (cz d (iV p) R.count).2 va (cz d (iV p) R.count).1.1 (cz d (iV p) R.count).1.2 else gL ⟨(p:Int),true,(R.wd l).wdv Tr.none false,U'⟩ d va (gZ n U'.m p).1 (gZ n U'.m p).2)=gL ⟨(p:Int),true,(R.wd l).wdv Tr.none dv,U'⟩ q.2.2 va q.1.1 q.1.2) ?_ ?_
 .refine VQ ?_ ?_<;>intro hc16
  .obtain rfl:dv=true:=hc16;refine Uu ?_;refine dE (eW b K.bm bd Z d) (λw hi hin=>CS b K.bm bd Z d hd p R.s.count w hin) ?_;rintro _ _ ⟨Z',rfl,rfl⟩;refine UA ?_;refine UN ((⟨⟨(cz d (iV p) R.s.count).1.1,(cz d (iV p) R.s.count).1.2⟩,Z',(cz d (iV p) R.s.count).2⟩:(Int×Bool)×fv×Un)) ?_;show(bif true then gL ⟨(p:Int),true,(R.wd l).wdv Tr.none true,U'⟩ (cz d (iV p) R.count).2 va (cz d (iV p) R.count).1.1 (cz d (iV p) R.count).1.2 else _)=_;rw[hcn];rfl
  obtain rfl:dv=false:=hc16;have hp4:=hbig (by simpa using hdv2);have hwo:gZ n U'.m p=(kY U'.m.data p,true):=(by unfold gZ;rw[ak hp4];rfl);refine UA ?_;refine Ig ?_;refine UD (λw hi=>po K n U'.m hMo p hp4 w (hi.get Zh) (hi.get (Ur (rmB K n U'.m)))) ?_;refine py ?_;refine UN ((⟨⟨kY U'.m.data p,true⟩,Z,d⟩:(Int×Bool)×fv×Un)) ?_;show(bif false then _ else gL ⟨(p:Int),true,(R.wd l).wdv Tr.none false,U'⟩ d va (gZ n U'.m p).1 (gZ n U'.m p).2)=_;rw[hwo];rfl
 rintro⟨⟨v1,ok1⟩,Z',d'⟩ hq;dsimp only at hq|-;rw[hq];refine Vl ?_ ?_<;>intro hc19
 .have hk:ok1=false:=(by simpa using hc19);subst hk;refine eK ?_;refine WT ?_;exact⟨X,(R.wd (l++[(va:Int)])).s,Z',I,I,λe=>by cases e⟩
 have hk:ok1=true:=(by simpa using hc19);subst hk;obtain⟨XA,Xc,XB,Xd⟩:=X;refine eo (λw hi=>dp (hi.get (Ur (UP (R.wd (l++[(va:Int)])).s XA Xc))) (show 0<J (l++[(va:Int)]) by omega)) (λhA=>?_);obtain⟨bd2,rfl⟩:=hA;refine UG ?_;refine Zy (eA (Zv I) (Zv I) (show _=(J l:Int)from aN _ ⟨by omega,by omega⟩|>.trans O)) ?_;refine ZA ?_;refine Zy (bW (j:=J l) (sz:=1) (r:=J l) I ir (Zv I) (Zv I) Uq Uq O) ?_;refine zc ?_;refine Uw ?_;rw[eh,show(R.wd (l++[(va:Int)])).s.d.set (J l) v1=l++[v1]from xU l va v1];refine UE ?_;refine WT ?_;refine⟨⟨some ⟨bd2,0,none⟩,Xc,XB,Xd⟩,(R.wd (l++[v1])).s,Z',I,?_,λ_=>I⟩;show _=U8 br ⟨some ⟨bd2,0,none⟩,Xc,XB,Xd⟩ (R.wd (l++[v1])).s dv K bx n U' b bd Z' d';exact Wq474
end
end Go.Ink
