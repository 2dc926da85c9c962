/- Lemmas. -/
import Derived.Test.YtgpahfcaecojgaaGreatDoorPau
import Derived.Test.YtgpahfcaecojgaaGreatDoorPzr
set_option linter.all false
set_option maxRecDepth 100000
set_option maxHeartbeats 4000000
namespace Go.Ink
open Go.RowKit Go.Proofs.Tryz
variable{ow:Li}{o:Int}{L:eB}{k:EM}{P:pU}{f:Nat}{α:Type}
def Mem.load(n:Nat)(l:Li):Mem:=(Mem.new n).fill 0 l l.length
theorem Mem.XB(n:Nat):(Mem.new n).ok n:=⟨aI,λx hx=>by rw[List.eq_of_mem_replicate hx];decide,aI⟩
theorem Ii{n:Nat}{l k:Li}(hb:u8s l)(hk:k.length<=1024)(hkb:u8s k):GOk n St.new ⟨Mem.load n l,fI⟩ (Dev.init k):=
 ⟨new_wf,rfl,⟨(Mem.XB n).fill 0 hb _,yD⟩,Dev.init_ok hk hkb,⟨Int.le_refl _,show(0:Int)<=255 by decide⟩⟩
theorem Inv.okS{w0 w:World}{S:List Nat}{cs cin rest:List bJ}(h:Inv w0 S cs w)(hp:fe cin cs rest):∀c,c∈cin->c.ok w:=λc hc=>h.ok c (hp.perm.symm.subset (List.mem_append_left _ hc))
structure sL where
 bg:Nat
 bu:Nat
 bb:Nat
 be:Nat
 L:eB
 D:rx
structure Gst where
 s:St
 X:ko
 Y:ov
 U:Mmu
 d:Dev
 o:Option EnX
def engV(be:Nat):Option EnX->Value
 |none=> .pointer none
 |some _=> .p be
def enO(be:Nat):Option EnX->List bJ
 |none=>[]
 |some E=>enF be E
abbrev DU(H:sL)(G:Gst)(k:Bool):List Value:=[.p H.D.bs,.p H.L.bm,.p H.L.bp,.i (H.L.o:Int),.p H.bu,engV H.be G.o]++(G.s.cells (.slice G.X.Ad G.s.d.length G.X.cd) (.slice G.X.Ar G.s.r.length G.X.cr)++[.bool k])
abbrev By(H:sL)(G:Gst)(k:Bool):bJ:=row H.bg (DU H G k) 139
abbrev gsF(H:sL)(G:Gst):List bJ:=By H G false::(guF H.bu H.bb H.L H.D G.s G.X G.Y G.U G.d++[bP (enO H.be G.o)])
structure Gst.ok(n:Nat)(G:Gst):Prop where
 g:GOk n G.s G.U G.d
 e:∀E,G.o=some E->oW E
structure Born(bp o n:Nat)(W ow pr l k:Li)(tr:Bool)(H:sL)(G:Gst):Prop where
 hbp:H.L.bp=bp
 ho:H.L.o=o
 hn:H.L.n=n
 hgw:H.L.gw=ow
 hgB:H.L.gB=W
 hgp:H.L.gp=pr.set o n
 hs:G.s=St.new
 hu:G.U=⟨Mem.load n l,fI⟩
 hd:G.d=Dev.init k
 htr:G.o.isSome=tr
 ok:G.ok n
theorem O2(bp:Nat)(W ow pr:Li)(hl:du W ow pr)(o n:Nat)(ho:o<4)(hn0:1<=n)(hn:n<=64)(h1:pr[o]? =some (-1))(hs:(n:Int)+fX pr 4<=240)(hb:∀x,x∈pr->x<=1000)(hno:∀x,x∈ow->x≠(o:Int))(hc:n<=mH ow 256)
  (A B:Oa) (c e:Nat) (l k:Li) (hll:l.length<=n*64) (hlb:u8s l) (hkl:k.length<=1024) (hkb:u8s k) (tr:Bool) (w:World) (hi:Inv w (bK [dD bp W ow pr]) [dD bp W ow pr] w)
  (hA:∀w',dc (bK [dD bp W ow pr]) w w'->Rd w' .u8 A l.length c l) (hB:∀w',dc (bK [dD bp W ow pr]) w w'->Rd w' .u8 B k.length e k):
  Ctr prog 55 [.p bp,.i o,imgV A c l B e k n,.bool tr] w [dD bp W ow pr] (λv cs=>∃H G,Born bp o n W ow pr l k tr H G/\v= .tuple #[.p H.bg,.i 0]/\cs=gsF H G):=by
 have hG:=Ii (n:=n) (l:=l) (k:=k) hlb hkl hkb;have HM:∀bt bf bg bm,ef (⟨bp,bt,bf,bg,bm,o,n,ow,W,pr.set o n⟩) (Mem.new n) ⟨W,ow,pr.set o n,List.replicate n (-1),List.replicate n false⟩:=λbt bf bg bm=>
  ef.new (L:=⟨bp,bt,bf,bg,bm,o,n,ow,W,pr.set o n⟩) ho hn0 hn (pr:=pr) hl rfl hno (Tk hc)
 have HB:∀(H:sL) (G:Gst),H.L.bp=bp->H.L.o=o->H.L.n=n->H.L.gw=ow->H.L.gB=W->H.L.gp=pr.set o n->G.s=St.new->G.U=⟨Mem.load n l,fI⟩->G.d=Dev.init k->G.o.isSome=tr->(∀E,G.o=some E->oW E)->Born bp o n W ow pr l k tr H G:=λH G a1 a2 a3 a4 a5 a6 a7 a8 a9 a10 a11=>⟨a1,a2,a3,a4,a5,a6,a7,a8,a9,a10,⟨by grind,a11⟩⟩
 have H2:=λbm w h=>P3 bm B e k hkl w h
 unfold Mem.load at HB;obtain⟨d,hd⟩:=Zgn (Dev.init k);rw[hd]at H2 HB;clear hG hd;refine Zfn func55 ntmps55 hi ?_;refine Z_2 ?_;refine ZO λb6=>?_;refine ng ?_;refine kv ?_;refine Zs (bU (Zdn []) Zk ?_);refine ZFe 0 0 ?_;refine ZG 1 ?_;refine U4 ?_;refine ZTn (λw hi=>qL l.length Wq1 w) ?_;rintro _ _ ⟨rfl,rfl⟩;refine UD ?_;refine Zt (cy rfl (bY) ?_);refine Z_9 ?_;refine dy ([dD bp W ow pr]) (λw hi hin=>nnew_ok bp W ow pr hl o n ho hn0 hn h1 hs hb w hin) ?_;rintro _ _ ⟨bt,bf,bg,rfl,rfl⟩;refine sG ?_;refine Z_6 ?_;refine ZSn (λw hi=>rnew_ok bp bt w) ?_;rintro _ _ ⟨bm,rfl,rfl⟩;refine Z_9 ?_;refine GV (bs:=[bp,bt,bf,bg,bm]) (F:=FR ⟨bp,bt,bf,bg,bm,o,n,ow,W,pr.set o n⟩ (List.replicate 64 false)) (hb:=λ_=>rfl) (p:=ef ⟨bp,bt,bf,bg,bm,o,n,ow,W,pr.set o n⟩ (Mem.new n)) ⟨W,ow,pr.set o n,List.replicate n (-1),List.replicate n false⟩ (HM bt bf bg bm) Zi (Z_3 ?_);refine ZcM ([fw ⟨bp,bt,bf,bg,bm,o,n,ow,W,pr.set o n⟩ (Mem.new n)]) (λw hi hin=>RC ⟨bp,bt,bf,bg,bm,o,n,ow,W,pr.set o n⟩ (Mem.new n) A c l hll hlb w hin (λw' hk=>hA w' (hi.WU Zi hk))) ?_;refine Z_7 ?_;refine ZSn (λw hi=>H2 bm w (hB w hi.WB)) ?_;rintro _ _ ⟨D,rfl,rfl⟩;refine fH ?_;refine ZSn (λw hi=>NP bm w) ?_;rintro _ _ ⟨bu,bb,rfl,rfl⟩;refine jl ?_;refine ZSe (λw hi=>XB w) ?_;refine ZA ?_;refine ZO λb77=>?_
 refine cY 49 1 (cY 49 1 (Zw9 ?_ ?_))<;>intro hc13
 .refine Z_2 ?_;refine ZSn (λw hi=>Pq 32 ⟨by decide,by decide⟩ w) ?_;rintro _ _ ⟨be,E,⟨hE,hE0⟩,rfl,rfl⟩;refine Z_5 ?_;refine fx (enF be E) Zi (ZL ?_);refine fH ?_;exact bO (gsF ⟨b77,bu,bb,be,⟨bp,bt,bf,bg,bm,o,n,ow,W,pr.set o n⟩,D⟩ ⟨St.new,⟨none,0,none,0⟩,⟨none,0,none,0⟩,⟨(Mem.new n).fill 0 l l.length,fI⟩,d,some E⟩) Zj (AH (cs':=(gsF ⟨b77,bu,bb,be,⟨bp,bt,bf,bg,bm,o,n,ow,W,pr.set o n⟩,D⟩ ⟨St.new,⟨none,0,none,0⟩,⟨none,0,none,0⟩,⟨(Mem.new n).fill 0 l l.length,fI⟩,d,some E⟩)) (.inl rfl) Zu rfl rfl rfl ⟨⟨b77,bu,bb,be,⟨bp,bt,bf,bg,bm,o,n,ow,W,pr.set o n⟩,D⟩,⟨St.new,⟨none,0,none,0⟩,⟨none,0,none,0⟩,⟨(Mem.new n).fill 0 l l.length,fI⟩,d,some E⟩,HB _ _ rfl rfl rfl rfl rfl rfl rfl rfl rfl (show true=tr from hc13.symm) (λE' h=>by grind),rfl,rfl⟩)
 refine fH ?_;exact kD (bO (gsF ⟨b77,bu,bb,0,⟨bp,bt,bf,bg,bm,o,n,ow,W,pr.set o n⟩,D⟩ ⟨St.new,⟨none,0,none,0⟩,⟨none,0,none,0⟩,⟨(Mem.new n).fill 0 l l.length,fI⟩,d,none⟩) Zj (AH (cs':=(gsF ⟨b77,bu,bb,0,⟨bp,bt,bf,bg,bm,o,n,ow,W,pr.set o n⟩,D⟩ ⟨St.new,⟨none,0,none,0⟩,⟨none,0,none,0⟩,⟨(Mem.new n).fill 0 l l.length,fI⟩,d,none⟩)) (.inl rfl) Zu rfl rfl rfl ⟨⟨b77,bu,bb,0,⟨bp,bt,bf,bg,bm,o,n,ow,W,pr.set o n⟩,D⟩,⟨St.new,⟨none,0,none,0⟩,⟨none,0,none,0⟩,⟨(Mem.new n).fill 0 l l.length,fI⟩,d,none⟩,HB _ _ rfl rfl rfl rfl rfl rfl rfl rfl rfl (show false=tr from hc13.symm) (λE' h=>by cases h),rfl,rfl⟩))
theorem DL(H:sL)(G:Gst)(w:World)(h:(By H G false).ok w)(h2:rj w G.s G.X.Ad G.X.Ar G.X.cd G.X.cr):Ctr prog 70 [.p H.bg] w [] (Vg G.s):=by
 refine Zfs func70 ntmps70 ?_;refine Z_2 ?_;refine ZN λb2=>?_;refine Z_7 ?_;refine dQ (bW (vs:=G.s.cells (.slice G.X.Ad G.s.d.length G.X.cd) (.slice G.X.Ar G.s.r.length G.X.cr)) Zrf Zrf Zv0) (uC (o:=6) h rfl) rfl (ZSn (λw hi=>mM G.s G.X.Ad G.X.Ar G.X.cd G.X.cr w (h2.Wh hi)) ?_);rintro _ _ ⟨A1,c1,A2,c2,rfl,rfl⟩;refine iC ?_;exact m8 (cs':=[slD G.s A1 c1,slR G.s A2 c2]) (.inl rfl) Zu rfl rfl Zh Zrf Zrf ⟨A1,c1,A2,c2,rfl,rfl⟩
theorem Tv(be bu bb:Nat)(L:eB)(hn:L.n<=1000000)(D:rx)(Y:ov)(s:St)(Ad Ar:Oa)(cd cr:Nat)(U:Mmu)(d:Dev)(hG:GOk L.n s U d)(m:Int)(hm0: -9223372036854775808<=m)(hm:m<=1000000)(ho:d.out.length+8*m.toNat+8<=1000000000)(E:EnX)(hE:oW E)(w:World)(hi:Inv w (bK (eoF be bu bb L D Y U d E)) (eoF be bu bb L D Y U d E) w)
  (h:∀w',dc (bK (eoF be bu bb L D Y U d E)) w w'->rj w' s Ad Ar cd cr) (ht:∀w',dc (bK (eoF be bu bb L D Y U d E)) w w'->fc w'):
  Ctr prog 97 [.p be,sv s Ad cd Ar cr,.p bu,.p D.bs,.i m] w (eoF be bu bb L D Y U d E)
   (λv cs=>∃X' Y' E',oW E'/\v=sv (g9 L.n m s U d).1 X'.Ad X'.cd X'.Ar X'.cr/\cs=egF be bu bb L D (g9 L.n m s U d).1 X' Y' (g9 L.n m s U d).2.1 (g9 L.n m s U d).2.2 E'):=by
 refine(Tu be bu bb L hn D Y s Ad Ar cd cr U d hG m hm0 hm ho E hE w hi h ht).mono ?_
 grind [Fj,hE.eg]
theorem OY(H:sL)(G:Gst)(hn:H.L.n<=1000000)(hG:G.ok H.L.n)(m:Int)(hm0: -9223372036854775808<=m)(hm:m<=1000000)(ho:G.d.out.length+8*m.toNat+8<=1000000000)(w:World)(hi:Inv w (bK (gsF H G)) (gsF H G) w)(ht:∀w',dc (bK (gsF H G)) w w'->fc w'):
  Ctr prog 68 [.p H.bg,.i m] w (gsF H G)
   (λv cs=>∃G',(G'.ok H.L.n/\(G'.s,G'.U,G'.d)=g9 H.L.n m G.s G.U G.d/\G'.o.isSome=G.o.isSome)/\v= .i (IntKind.i64.wrap (IntKind.u64.wrap ((g9 H.L.n m G.s G.U G.d).1.count - G.s.count)))/\cs=gsF H G'):=by
 obtain⟨s,X,Y,U,d,o⟩:=G;have hg:=hG.g;dsimp only at hg ho|-;obtain⟨hd16,hr16, -⟩:=St.fits hg.right;have hg2:GOk H.L.n (g9 H.L.n m s U d).1 (g9 H.L.n m s U d).2.1 (g9 H.L.n m s U d).2.2:=(Fj hn m hg (gC.fresh (room:=8) ⟨by decide,by decide⟩)).2.2.1;cases o with
 |none=>
  have HR:=run_ok H.bu H.bb H.L H.D Y s X.Ad X.Ar X.cd X.cr U d hg m hm0 hm ho;obtain⟨⟨s2,U2,d2⟩,hq⟩:=Zgn (g9 H.L.n m s U d);rw[hq]at HR hg2|-;dsimp only at hg2;refine Zfn func68 ntmps68 hi ?_;refine fH ?_;refine ZFa 22 ?_;refine iX ?_;refine om ?_;refine pN ?_;refine bU (Zdn [14,17]) Zk (pS ?_);refine ZFe 3 6 ?_;refine Zy5 4 rfl (bW (vs:=s.cells (.slice X.Ad s.d.length X.cd) (.slice X.Ar s.r.length X.cr)) Zrf Zrf Zv0) (cX (o:=6) Zh rfl) ?_;refine kU ?_;refine ZFe 7 4 ?_;refine ZG 8 ?_;refine ZE 9 ?_;refine ZE 10 ?_;refine ZFe 11 0 ?_;refine ZG 12 ?_;refine ZE 13 ?_;refine cW 14 Zk (tD (ubF H.bu H.bb H.L H.D Y U d) (λw hi hin=>HR w hin (λw' hk=>hi.Xp Zi (Zhc (slD s X.Ad X.cd)) (Zhc (slR s X.Ar X.cr)) Wq1 Wq1 hk) (λw' hk=>ht w' (hi.WU Zi hk))) ?_);rintro _ _ ⟨X2,Y2,rfl,rfl⟩;refine ZE 15 ?_;refine ZFe 16 6 ?_;refine cW 17 Zk (fy rfl rfl (gx (ys:=DU H ⟨s2,X2,Y2,U2,d2,none⟩ false) (n:=16) (vs:=s2.cells (.slice X2.Ad s2.d.length X2.cd) (.slice X2.Ar s2.r.length X2.cr)) rfl Zrf rfl rfl (mQ rfl) Za rfl (Nat.le_of_ble_eq_true rfl)) ZJ ?_);rintro _ _ ⟨rfl,rfl⟩;refine dR ?_;refine Z_9 ?_;refine Ey ?_;refine lD ?_;refine Z_4 ?_;refine bO (gsF H ⟨s2,X2,Y2,U2,d2,none⟩) Zj (Zrb ((gsF H ⟨s2,X2,Y2,U2,d2,none⟩)) ?_);exact⟨⟨s2,X2,Y2,U2,d2,none⟩,⟨⟨hg2,λE h=>by cases h⟩,rfl,rfl⟩,rfl,rfl⟩
 |some E=>
  have hE:=hG.e E rfl;have HR:=Tv H.be H.bu H.bb H.L hn H.D Y s X.Ad X.Ar X.cd X.cr U d hg m hm0 hm ho;obtain⟨⟨s2,U2,d2⟩,hq⟩:=Zgn (g9 H.L.n m s U d);rw[hq]at HR hg2|-;dsimp only at hg2;refine Zfn func68 ntmps68 hi ?_;refine fH ?_;refine ZFa 22 ?_;refine iX ?_;refine Gv ?_;refine L1 (bs:=bK (enF H.be E)) (F:=λ_:Unit=>enF H.be E) (hb:=λ_=>rfl) (p:=λ_=>True) Zd (λ_ _=>?_);refine Z_3 ?_;refine pX ?_;refine Zs (bU (Zdn [9]) Zk ?_);refine pP ?_;refine ZFe 2 5 ?_;refine Ca ?_;refine ZFe 6 1 ?_;refine ic ?_;refine zL ?_;refine ig ?_;refine ZTn (λw hi=>rP H.L U.m w (hi.get (Zhc (fw H.L U.m)))) ?_;rintro _ _ ⟨A3,c3,rfl,rfl⟩;refine kR ?_;refine tD (enP H.be E A3 c3 (ip U.m.Wj 64)) (λw hi hin=>zr H.be E hE A3 c3 (ip U.m.Wj 64) w hin) ?_;rintro _ _ ⟨E2,rfl,hE2, -⟩;refine dR ?_;refine Zt (bU (Zdn [18,21]) Zk ?_);refine pS ?_;refine ZFe 3 5 ?_;refine BW ?_;refine ZFe 7 6 ?_;refine Zy5 8 rfl (bW (vs:=s.cells (.slice X.Ad s.d.length X.cd) (.slice X.Ar s.r.length X.cr)) Zrf Zrf Zv0) (cX (o:=6) Zh rfl) ?_;refine ZE 9 ?_;refine ZE 10 ?_;refine ZFe 11 4 ?_;refine ZG 12 ?_;refine ZE 13 ?_;refine ZE 14 ?_;refine ZFe 15 0 ?_;refine ZG 16 ?_;refine ZE 17 ?_;refine cW 18 Zk (tD (eoF H.be H.bu H.bb H.L H.D Y U d E2) (λw hi hin=>HR E2 hE2 w hin (λw' hk=>hi.Xp Zi (Zhc (slD s X.Ad X.cd)) (Zhc (slR s X.Ar X.cr)) Wq1 Wq1 hk) (λw' hk=>ht w' (hi.WU Zi hk))) ?_);rintro _ _ ⟨X2,Y2,E3,hE3,rfl,rfl⟩;refine ZE 19 ?_;refine ZFe 20 6 ?_;refine cW 21 Zk (fy rfl rfl (gx (ys:=DU H ⟨s2,X2,Y2,U2,d2,some E3⟩ false) (n:=16) (vs:=s2.cells (.slice X2.Ad s2.d.length X2.cd) (.slice X2.Ar s2.r.length X2.cr)) rfl Zrf rfl rfl (mQ rfl) Za rfl (Nat.le_of_ble_eq_true rfl)) ZJ ?_);rintro _ _ ⟨rfl,rfl⟩;refine dR ?_;refine Z_3 ?_;refine fx (enF H.be E3) Zi (Z_6 ?_);refine Ey ?_;refine lD ?_;refine Z_4 ?_;refine bO (gsF H ⟨s2,X2,Y2,U2,d2,some E3⟩) Zj (Zrb ((gsF H ⟨s2,X2,Y2,U2,d2,some E3⟩)) ?_);exact⟨⟨s2,X2,Y2,U2,d2,some E3⟩,⟨⟨hg2,λE h=>by grind⟩,rfl,rfl⟩,rfl,rfl⟩
end Go.Ink
