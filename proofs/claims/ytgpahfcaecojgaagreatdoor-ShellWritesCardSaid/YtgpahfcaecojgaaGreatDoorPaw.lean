/- Lemmas. -/
import Derived.Test.YtgpahfcaecojgaaGreatDoorPav
set_option linter.all false
set_option maxRecDepth 100000
set_option maxHeartbeats 4000000
namespace Go.Ink
open Go.RowKit Go.Proofs.Tryz
section
attribute [local irreducible] OpY bN
theorem OT{L:eB}{M:Mem}{k:EM}(h:ef L M k):xJ (cQ k.ow L.o 256):=by
 unfold cQ;refine⟨λf hf=>?_,List.pairwise_map.2 ((List.filter_sublist.nodup List.nodup_range).imp λhne e=>hne (Int.ofNat.inj e))⟩;obtain⟨g,hg,rfl⟩:=aZ.1 hf;rw[List.mem_filter,List.mem_range]at hg;have e:=eq_of_beq hg.2;rcases h.held g hg.1 with⟨-,h1⟩|⟨-, -,q,hq⟩|⟨h1,h2, -⟩
 .grind
 .have hql:q<L.n:=by have:=(ar.1 hq).1;rw[h.fr]at this;exact this
  rcases h.Wt q hql with⟨h3, -⟩|⟨f',h3,h4,h5, -⟩
  .grind
  grind
 grind [eB.oth]
def Gst.view(G:Gst):Vw:=⟨G.s,G.U.m.data,G.d.out,G.d.inp,G.d.Ww,G.d.Wx,G.d.mask,false⟩
def yh:Vw:=⟨St.zero,[],[],[],[],0,0,true⟩
def xZ:VAd:=⟨⟨none,0,none,0⟩,none,0,none,0,none,0,none,0⟩
abbrev vwC(v:Vw)(Y:VAd):List bJ:=[slD v.s Y.X.Ad Y.X.cd,slR v.s Y.X.Ar Y.X.cr,b8 Y.Am Y.cm v.m,b8 Y.Ao Y.co v.o,b8 Y.Ai Y.ci v.i,b8 Y.Ak Y.ck v.k]
variable{w:World}{v:Vw}
theorem vw_rd{Y:VAd}(h:∀c,c∈vwC v Y->c.ok w)(hd:v.s.d.length*4<=140737488355328)(hr:v.s.r.length*4<=140737488355328):oV w v Y:=
 ⟨⟨dM (h _ (.head _)),dM (h _ (.tail _ (.head _))),hd,hr⟩,dM (h _ (.tail _ (.tail _ (.head _)))),dM (h _ (.tail _ (.tail _ (.tail _ (.head _))))),dM (h _ (.tail _ (.tail _ (.tail _ (.tail _ (.head _)))))),dM (h _ (.tail _ (.tail _ (.tail _ (.tail _ (.tail _ (.head _)))))))⟩
theorem IA(H:sL)(G:Gst)(hG:G.ok H.L.n)(ho:G.d.out.length<=1000000000)(w:World)(h:∀c,c∈gsF H G->c.ok w):
  Ctr prog 63 [.p H.bg] w [] (λv cs=>∃Y,v=vv G.view Y/\cs=vwC G.view Y):=by
 obtain⟨s,X,Y,U,d,o⟩:=G;have hg:=hG.g;dsimp only at hg ho;obtain⟨hd16,hr16, -⟩:=St.fits hg.right;have hinp:=hg.dv.wf.inp;have hdk:=hg.dv.wf.Ww;have h0:(By H ⟨s,X,Y,U,d,o⟩ false).ok w:=h _ cP;have hst:rj w s X.Ad X.Ar X.cd X.cr:=⟨dM (h (slD s X.Ad X.cd) cP),dM (h (slR s X.Ar X.cr) cP),by omega,by omega⟩;have hm:(fw H.L U.m).ok w:=h _ cP;have hbu:(P4 H.D H.L.bm d).ok w:=h _ cP;have hir:(s8 H.D.bi d.Wx d.mask).ok w:=h _ cP;have hcn:(BM H.D.bcn Y.Ao d.out.length Y.co Y.Ai d.inp.length Y.ci).ok w:=h _ cP;have hou:(b8 Y.Ao Y.co d.out).ok w:=h _ cP;have hii:(b8 Y.Ai Y.ci d.inp).ok w:=h _ cP;have hdr:(QM H.D.bdr H.D.bdk).ok w:=h _ cP;have hds:(Pz H.D.bdk d.Ww).ok w:=h _ cP;have HDr:∀w,(QM H.D.bdr H.D.bdk).ok w->(Pz H.D.bdk d.Ww).ok w->Ctr prog 92 [.p H.D.bdr] w [] (λv cs=>∃A' c',v= .slice A' d.Ww.length c'/\cs=[sl .u8 5 A' d.Ww.length c' d.Ww]):=λw h h2=>by
  have e:=PD H.D.bdr H.D.bdk d.Ww w h h2
  simp_all
 refine Zfs func63 ntmps63 ?_;refine Z_2 ?_;refine ZN λb2=>?_;refine Z_7 ?_;refine ZFa 22 ?_;refine Ql ?_;refine pN ?_;refine Z_3 ?_;refine bU (Zdn [48]) Zk (ZE 0 ?_);refine ZE 2 ?_;refine ZE 3 ?_;refine ZFe 4 1 ?_;refine Zy5 5 rfl (bM Zrf (Zv rfl)) (dr la rfl) ?_;refine ZE 7 ?_;refine ZE 8 ?_;refine ZFe 9 0 ?_;refine Zy5 10 rfl (bM Zrf (Zv rfl)) (dr la rfl) ?_;refine ZE 11 ?_;refine ZFe 12 2 ?_;refine Zy5 13 rfl (bM Zrf (Zv rfl)) (dr la rfl) ?_;refine ZE 15 ?_;refine ZE 16 ?_;refine ZFe 17 0 ?_;refine Zy5 18 rfl (bM Zrf (Zv rfl)) (dr la rfl) ?_;refine ZE 19 ?_;refine ZFe 20 2 ?_;refine Zy5 21 rfl (bM Zrf (Zv rfl)) (dr la rfl) ?_;refine ZE 23 ?_;refine ZE 24 ?_;refine ZFe 25 0 ?_;refine Zy5 26 rfl (bM Zrf (Zv rfl)) (dr la rfl) ?_;refine ZE 27 ?_;refine ZFe 28 3 ?_;refine Zy5 29 rfl (bM Zrf (Zv rfl)) (dr la rfl) ?_;refine ZE 31 ?_;refine ZE 32 ?_;refine ZFe 33 0 ?_;refine Zy5 34 rfl (bM Zrf (Zv rfl)) (dr la rfl) ?_;refine ZE 35 ?_;refine ZFe 36 0 ?_;refine Zy5 37 rfl (bM Zrf (Zv rfl)) (dr la rfl) ?_;refine ZE 39 ?_;refine ZE 40 ?_;refine ZFe 41 0 ?_;refine Zy5 42 rfl (bM Zrf (Zv rfl)) (dr la rfl) ?_;refine ZE 43 ?_;refine ZFe 44 0 ?_;refine Zy5 45 rfl (bM Zrf (Zv rfl)) (dr la rfl) ?_;refine cW 1 Zk (ZTn (λw hi=>DL H ⟨s,X,Y,U,d,o⟩ w (bJ.old h0 hi) (hst.Wh hi)) ?_);rintro _ _ ⟨A1,c1,A2,c2,rfl,rfl⟩;refine cW 6 Zk (ZTn (λw hi=>rall_ok H.L U.m w (bJ.old hm hi)) ?_);rintro _ _ ⟨bx,rfl,rfl⟩;refine cW 14 Zk (ZTn (λw hi=>Ej H.D.bcn Y.Ao Y.co d.out Y.Ai d.inp.length Y.ci ho w (bJ.old hcn hi) (bJ.old hou hi)) ?_);rintro _ _ ⟨A5,c5,rfl,rfl⟩;refine cW 22 Zk (ZTn (λw hi=>TN H.D.bcn Y.Ao d.out.length Y.co Y.Ai Y.ci d.inp Wq1 w (bJ.old hcn hi) (bJ.old hii hi)) ?_);rintro _ _ ⟨A6,c6,rfl,rfl⟩;refine cW 30 Zk (ZTn (λw hi=>HDr w (bJ.old hdr hi) (bJ.old hds hi)) ?_);rintro _ _ ⟨A7,c7,rfl,rfl⟩;refine cW 38 Zk (ZTn (λw hi=>yT H.D.bi d.Wx d.mask w (bJ.old hir hi)) ?_);rintro _ _ ⟨rfl,rfl⟩;refine cW 46 Zk (ZTn (λw hi=>NY H.D.bi d.Wx d.mask w (bJ.old hir hi)) ?_);rintro _ _ ⟨rfl,rfl⟩;refine ZE 47 ?_;refine cW 48 Zk (ZR ?_);refine jU ?_;exact bO (row b2 (Vw.cells (Gst.view ⟨s,X,Y,U,d,o⟩) ⟨⟨A1,c1,A2,c2⟩,some ⟨bx,0,none⟩,U.m.data.length,A5,c5,A6,c6,A7,c7⟩) 55::vwC (Gst.view ⟨s,X,Y,U,d,o⟩) ⟨⟨A1,c1,A2,c2⟩,some ⟨bx,0,none⟩,U.m.data.length,A5,c5,A6,c6,A7,c7⟩) Zj (m8 (cs':=(vwC (Gst.view ⟨s,X,Y,U,d,o⟩) ⟨⟨A1,c1,A2,c2⟩,some ⟨bx,0,none⟩,U.m.data.length,A5,c5,A6,c6,A7,c7⟩)) (.inl rfl) Zu rfl rfl Zh Zrf Zrf ⟨⟨⟨A1,c1,A2,c2⟩,some ⟨bx,0,none⟩,U.m.data.length,A5,c5,A6,c6,A7,c7⟩,rfl,rfl⟩)
theorem DK(H:sL)(G:Gst)(w:World)(h0:(By H G true).ok w):CW prog 63 [.p H.bg] w (vv yh xZ):=by
 refine Zfs func63 ntmps63 ?_;refine Z_2 ?_;refine ZN λb2=>?_;refine Z_7 ?_;refine ZFa 22 ?_;refine Ql ?_;refine xw ?_;refine Z_3 ?_;refine jC ?_;exact yr
theorem Gd(H:sL)(G:Gst)(w:World)(h0:(By H G true).ok w):CW prog 84 [.p H.bg] w (.slice none 0 0):=by
 refine Zfs func84 ntmps84 ?_;refine fH ?_;refine ZFa 22 ?_;refine Ql ?_;refine xw ?_;exact Ez
theorem zn(H:sL)(G:Gst)(k:Bool)(w:World)(h0:(By H G k).ok w):CW prog 85 [.p H.bg] w (.bool k):=by
 refine Zfs func85 ntmps85 ?_;refine Z_9 ?_;refine ZFa 22 ?_;refine Ql ?_;exact o7
theorem Th(H:sL)(G:Gst)(ho4:H.L.o<4)(hl:H.L.gw.length=256)(hno:∀x,x∈H.L.gw->x≠(H.L.o:Int)):CI prog 89 [.p H.bg] (gsF H G) (λ_ cs=>∃B,(du B H.L.gw (H.L.gp.set H.L.o (-1))/\∀f,f<256->H.L.oth f=true->∀j,j<64->B[f*64+j]? =H.L.gB[f*64+j]?)/\cs=[By H G true,dD H.L.bp B H.L.gw (H.L.gp.set H.L.o (-1))]):=λw hi=>by
 refine Zfn func89 ntmps89 hi ?_;refine Z_5 ?_;refine ZFa 22 ?_;refine iX ?_;refine Z_6 ?_;refine ZFa 22 ?_;refine eT (ij Zrf rfl rfl rfl Za (Nat.le_of_ble_eq_true rfl)) ?_;rintro _ _ ⟨rfl,rfl⟩;rw[show(DU H G false).set 22 (.bool true)=DU H G true from rfl];refine Z_8 ?_;refine dy ([fw H.L G.U.m]) (λw hi hin=>Nj H.L G.U.m hl hno w hin) ?_;rintro _ _ ⟨B,⟨e1,e2⟩,rfl⟩;refine Z_2 ?_;refine bU (Zdn [8]) Zk (pP ?_);refine ZFe 2 2 ?_;refine Ca ?_;refine ZFe 6 3 ?_;refine ZG 7 ?_;refine ig ?_;refine tD ([dD H.L.bp B H.L.gw H.L.gp]) (λw hi hin=>R7 H.L.bp B H.L.gw H.L.gp e1 H.L.o ho4 hno w hin) ?_;rintro _ _ ⟨rfl,rfl⟩;refine dR ?_;exact bO [By H G true,dD H.L.bp B H.L.gw (H.L.gp.set H.L.o (-1))] Zj (jE (cs':=[By H G true,dD H.L.bp B H.L.gw (H.L.gp.set H.L.o (-1))]) (.inr rfl) Zu rfl ⟨B,⟨⟨e1.b,e1.ow,by rw[List.length_set];exact e1.pr⟩,e2⟩,rfl⟩)
structure RLoc9 where
 bg:Nat
 K:RMLoc
 bx:Nat
 by_:Nat
 bd:Nat
theorem Nv:du (List.replicate 16384 0) (List.replicate 256 (-1)) (List.replicate 4 (-1)):=⟨aI,aI,aI⟩
theorem free0:mH (List.replicate 256 (-1)) 256=240:=by decide+kernel
theorem Tg(bp o n:Nat)(W:Li)(hW:W.length=16384)(ho:o<4)(hn0:1<=n)(hn:n<=64)(A B:Oa)(c e:Nat)(l k:Li)(hll:l.length<=n*64)(hlb:u8s l)(hkl:k.length<=1024)(hkb:u8s k)(tr:Bool)(w:World)(hi:Inv w (bK [dD bp W (List.replicate 256 (-1)) (List.replicate 4 (-1))]) [dD bp W (List.replicate 256 (-1)) (List.replicate 4 (-1))] w)
  (hA:∀w',dc (bK [dD bp W (List.replicate 256 (-1)) (List.replicate 4 (-1))]) w w'->Rd w' .u8 A l.length c l) (hB:∀w',dc (bK [dD bp W (List.replicate 256 (-1)) (List.replicate 4 (-1))]) w w'->Rd w' .u8 B k.length e k):
  Ctr prog 55 [.p bp,.i o,imgV A c l B e k n,.bool tr] w [dD bp W (List.replicate 256 (-1)) (List.replicate 4 (-1))] (λv cs=>∃H G,Born bp o n W (List.replicate 256 (-1)) (List.replicate 4 (-1)) l k tr H G/\v= .tuple #[.p H.bg,.i 0]/\cs=gsF H G):=
 O2 bp W (List.replicate 256 (-1)) (List.replicate 4 (-1)) ⟨hW,aI,aI⟩ o n ho hn0 hn bY (by rw[show fX (List.replicate 4 (-1)) 4=0 from rfl];omega) (λx hx=>by grind) (λx hx=>by grind) (by rw[free0];omega) A B c e l k hll hlb hkl hkb tr w hi hA hB
variable{args:List Value}{rest:List bJ}{K1:Value->List bJ->Prop}
theorem Ctr.via{P:Program}{f:FuncId}{cs0 cin:List bJ}{K:Value->List bJ->Prop}(h1:Inv w (bK cs0) (cin++rest) w)(hc:Inv w (bK cin) cin w->Ctr P f args w cin K1)
  (hk:∀v cout w',K1 v cout->Inv w (bK cs0) (cout++rest) w'->∃cs',K v cs'/\Inv w (bK cs0) cs' w'):Ctr P f args w cs0 K:=by
 have hi:Inv w (bK cin) cin w:=⟨dc.refl _ _,(List.nodup_append.1 (by have:=h1.nodup;rw[fm]at this;exact this)).1,λc hc=>h1.ok c (az.2 (.inl hc)),λb hb=> .inl hb⟩;refine Calls.mono (hc hi) λe w' hq=>?_
 obtain⟨v,cout,rfl,hk1,hi2⟩:=hq;have h3:Inv w (bK cs0) (cout++rest) w':=h1.step (cin:=cin) (rest:=rest) (cout:=cout) (.refl _) (.refl _) hi2.WB hi2
 grind
variable{α:Type}
theorem ND(a:α)(A B R:List α):(a::(A++B)++R).Perm (a::B++(A++R)):=by
 rw[aP,aP,aq];refine List.Perm.cons _ ?_;rw[<-aq,<-aq];exact List.perm_append_comm.append_right _
theorem jz{α β:Type}(f:α->List β):∀{l:List α} {i:Nat} {x:α},l[i]? =some x->(l.flatMap f).Perm (f x++(l.eraseIdx i).flatMap f)
 |y::l,0,x,h=>by
  simp_all
 |y::l,i+1,x,h=>by
  have ih:=jz f (l:=l) (i:=i) (x:=x) h;rw[bF,List.eraseIdx_cons_succ,bF];refine(ih.append_left (f y)).trans ?_;rw[<-aq,<-aq];exact List.perm_append_comm.append_right _
theorem wJ{β:Type}(f:α->List β){l:List α}{i:Nat}{x y:α}(h:l[i]? =some x):((l.set i y).flatMap f).Perm (f y++(l.eraseIdx i).flatMap f):=by
 grind [jz,List.getElem?_eq_some_iff,List.eraseIdx_set_eq,List.getElem?_set_self]
structure MG where
 H:sL
 G:Gst
 fr:List Int
 gd:List Bool
 dead:Bool
def sL.on(H:sL)(P:pU):sL:=⟨H.bg,H.bu,H.bb,H.be,H.L.on P,H.D⟩
abbrev gxF(H:sL)(G:Gst):List bJ:=By H G false::slD G.s G.X.Ad G.X.cd::slR G.s G.X.Ar G.X.cr::LG H.bu H.L.bm H.bb::Cw H.bb G.U.t::(mO H.D H.L.bm G.Y G.d++[bP (enO H.be G.o)])
abbrev tmF(H:sL)(G:Gst)(fr:Li)(gd:List Bool):List bJ:=[jX H.L.bt H.L.bp H.L.o H.L.bf H.L.bg H.L.n,frC H.L.bf H.L.n fr,gdC H.L.bg H.L.n gd,sZ H.L G.U.m.Wj]
def MG.cs(g:MG):List bJ:=bif g.dead then[By g.H g.G true]else gxF g.H g.G++tmF g.H g.G g.fr g.gd
abbrev ia(bp:Nat)(P:pU):bJ:=dD bp P.B P.ow P.pr
theorem OX(H:sL)(G:Gst):(gsF H G).Perm (fw H.L G.U.m::gxF H G):=by
 show List.Perm (By H G false::slD G.s G.X.Ad G.X.cd::slR G.s G.X.Ar G.X.cr::LG H.bu H.L.bm H.bb::fw H.L G.U.m::Cw H.bb G.U.t::(mO H.D H.L.bm G.Y G.d++[bP (enO H.be G.o)])) _;refine((((List.Perm.swap _ _ _).cons _).cons _).cons _).trans ?_;refine(((List.Perm.swap _ _ _).cons _).cons _).trans ?_;refine((List.Perm.swap _ _ _).cons _).trans ?_;exact List.Perm.swap _ _ _
variable{w0:World}{S:List Nat}{P:pU}{H:sL}{G:Gst}
theorem FP{fr:Li}{gd:List Bool}(hm:sJ H.L P G.U.m fr gd)(h:Inv w0 S (ia H.L.bp P::(gxF H G++tmF H G fr gd)++rest) w):Inv w0 S (gsF (H.on P) G++rest) w:=by
 have h1:Inv w0 S (FR (H.L.on P) G.U.m.Wj ⟨P.B,P.ow,P.pr,fr,gd⟩++(gxF (H.on P) G++rest)) w:=by
  refine h.perm ?_;show List.Perm (ia H.L.bp P::(gxF H G++tmF H G fr gd)++rest) (ia H.L.bp P::tmF H G fr gd++(gxF H G++rest));exact ND _ _ _ _
 have h2:=Inv.WT (bs:=[H.L.bp,H.L.bt,H.L.bf,H.L.bg,H.L.bm]) (F:=FR (H.L.on P) G.U.m.Wj) (hb:=λ_=>rfl) (p:=ef (H.L.on P) G.U.m) ⟨P.B,P.ow,P.pr,fr,gd⟩ hm h1;exact h2.perm ((OX (H.on P) G).symm.append_right rest)
theorem VD(h:Inv w0 S (gsF (H.on P) G++rest) w):∃k,ef (H.L.on P) G.U.m k/\Inv w0 S (ia H.L.bp ⟨k.B,k.ow,k.pr⟩::(gxF H G++tmF H G k.fr k.gd)++rest) w:=by
 have h1:=h.perm ((OX (H.on P) G).append_right rest);obtain⟨k,hk,h2⟩:=h1.Xj;refine⟨k,hk,h2.perm ?_⟩;show List.Perm (ia H.L.bp ⟨k.B,k.ow,k.pr⟩::tmF H G k.fr k.gd++(gxF H G++rest)) (ia H.L.bp ⟨k.B,k.ow,k.pr⟩::(gxF H G++tmF H G k.fr k.gd)++rest)
 grind [ND]
structure lG(bp:Nat)(P:pU)(gs:List MG):Prop where
 Xb:mc P
 four:gs.length<=4
 rest:∀o:Nat,gs.length<=o->o<4->P.pr[o]? =some (-1)
 at_:∀(i:Nat) (g:MG),gs[i]? =some g->g.H.L.o=i/\g.H.L.bp=bp/\(g.dead=false->sJ g.H.L P g.G.U.m g.fr g.gd/\g.G.ok g.H.L.n)/\(g.dead=true->P.pr[i]? =some (-1))
abbrev iR(bp:Nat)(P:pU)(gs:List MG):List bJ:=[ia bp P,bP (gs.flatMap MG.cs)]
variable{bp:Nat}{gs:List MG}{i:Nat}{g:MG}
theorem uG{f:FuncId}{K:Value->Gst->Prop}(hM:lG bp P gs)(hg:gs[i]? =some g)(hd:g.dead=false)
  (hi:Inv w (bK (iR bp P gs)) (iR bp P gs) w) (hc:(∀w',dc (bK (gsF (g.H.on P) g.G)) w w'->dc (bK (iR bp P gs)) w w')->Inv w (bK (gsF (g.H.on P) g.G)) (gsF (g.H.on P) g.G) w->Ctr prog f args w (gsF (g.H.on P) g.G) K1)
  (hk:∀v cs,K1 v cs->∃G',K v G'/\G'.ok g.H.L.n/\cs=gsF (g.H.on P) G'):
  Ctr prog f args w (iR bp P gs) (λv cs=>∃P' g',(K v g'.G/\g'.H=g.H/\g'.dead=false/\lG bp P' (gs.set i g'))/\cs=iR bp P' (gs.set i g')):=by
 obtain⟨ho,hbp,hal, -⟩:=hM.at_ i g hg;obtain⟨hm,hG⟩:=hal hd;have hcs:g.cs=gxF g.H g.G++tmF g.H g.G g.fr g.gd:=by unfold MG.cs;rw[hd];rfl
 have h1:Inv w (bK (iR bp P gs)) (ia g.H.L.bp P::(gxF g.H g.G++tmF g.H g.G g.fr g.gd)++(gs.eraseIdx i).flatMap MG.cs) w:=by
  have h2:Inv w (bK (iR bp P gs)) (gs.flatMap MG.cs++[ia bp P]) w:=(hi.perm (List.Perm.swap _ _ _)).WQ;refine h2.perm (List.perm_append_comm.trans ?_);rw[hbp,aP];refine List.Perm.cons _ ?_;rw[<-hcs];exact jz MG.cs hg
 have h2:=FP hm h1;refine Ctr.via h2 (hc ?_) ?_
 .intro w' hk';exact h2.Xv (cin:=gsF (g.H.on P) g.G) (λc hc=>az.2 (.inl hc)) hk'
 intro v cout w' hK1 h3;obtain⟨G',hK,hG',rfl⟩:=hk v cout hK1;obtain⟨k,hkk,h4⟩:=VD h3;refine⟨_,⟨⟨k.B,k.ow,k.pr⟩,⟨g.H,G',k.fr,k.gd,false⟩,⟨hK,rfl,rfl,?_⟩,rfl⟩,?_⟩
 .refine⟨hM.Xb.turn (hkk.turns hM.Xb),by grind [hM.four],λo' h1 h2=>by rw[List.length_set]at h1;show k.pr[o']? =_;rw[show k.pr=P.pr from hkk.prs];exact hM.rest o' h1 h2,λj x hx=>?_⟩;by_cases hji:j=i
  .grind [sJ.own,hM.Xb]
  rw[List.getElem?_set_ne (Ne.symm hji)]at hx;obtain⟨a1,a2,a3,a4⟩:=hM.at_ j x hx;refine⟨a1,a2,λe=>?_,λe=>by show k.pr[j]? =_;rw[show k.pr=P.pr from hkk.prs];exact a4 e⟩;obtain⟨b1,b2⟩:=a3 e;exact⟨sJ.other hM.Xb (hkk.turns hM.Xb) b1 Wq1,b2⟩
 have h5:Inv w (bK (iR bp P gs)) ((gs.set i ⟨g.H,G',k.fr,k.gd,false⟩).flatMap MG.cs++[ia bp ⟨k.B,k.ow,k.pr⟩]) w':=by
  refine h4.perm ((List.perm_append_comm.trans ?_).symm);rw[hbp,aP];exact List.Perm.cons _ (wJ MG.cs (y:=⟨g.H,G',k.fr,k.gd,false⟩) hg)
 exact(Inv.WT (F:=λ_:Unit=>(gs.set i ⟨g.H,G',k.fr,k.gd,false⟩).flatMap MG.cs) (hb:=λ_=>rfl) (p:=λ_=>True) () trivial h5).perm (List.Perm.swap _ _ _)
theorem FJ{cs:List bJ}(hM:lG bp P gs)(hg:gs[i]? =some g)(hd:g.dead=false)(hi:Inv w0 S cs w)(hs:fe (iR bp P gs) cs rest):∀c,c∈gsF (g.H.on P) g.G->c.ok w:=by
 obtain⟨ho,hbp,hal, -⟩:=hM.at_ i g hg;obtain⟨hm, -⟩:=hal hd;have hcs:g.cs=gxF g.H g.G++tmF g.H g.G g.fr g.gd:=by unfold MG.cs;rw[hd];rfl
 have h1:Inv w0 S (ia g.H.L.bp P::(gxF g.H g.G++tmF g.H g.G g.fr g.gd)++((gs.eraseIdx i).flatMap MG.cs++rest)) w:=by
  have h2:Inv w0 S (gs.flatMap MG.cs++(ia bp P::rest)) w:=((hi.perm hs.perm).perm (List.Perm.swap _ _ _)).WQ;refine h2.perm (List.perm_middle.trans ?_);rw[hbp,aP];refine List.Perm.cons _ ?_;rw[<-hcs,<-aq];exact(jz MG.cs hg).append_right rest
 exact λc hc=>(FP hm h1).ok c (az.2 (.inl hc))
theorem Bb{cs:List bJ}(hg:gs[i]? =some g)(hd:g.dead=true)(hi:Inv w0 S cs w)(hs:fe (iR bp P gs) cs rest):(By g.H g.G true).ok w:=by
 have hcs:g.cs=[By g.H g.G true]:=by unfold MG.cs;rw[hd];rfl
 have h2:Inv w0 S (gs.flatMap MG.cs++(ia bp P::rest)) w:=((hi.perm hs.perm).perm (List.Perm.swap _ _ _)).WQ;exact h2.ok _ (az.2 (.inl (List.mem_flatMap.2 ⟨g,ak hg,by grind⟩)))
theorem Ss(hM:lG bp P gs)(hg:gs[i]? =some g)(hd:g.dead=false)(hi:Inv w (bK (iR bp P gs)) (iR bp P gs) w):
  Ctr prog 89 [.p g.H.bg] w (iR bp P gs) (λ_ cs=>∃P',lG bp P' (gs.set i ⟨g.H,g.G,[],[],true⟩)/\cs=iR bp P' (gs.set i ⟨g.H,g.G,[],[],true⟩)):=by
 obtain⟨ho,hbp,hal, -⟩:=hM.at_ i g hg;obtain⟨hm,hG⟩:=hal hd;have ho4:g.H.L.o<4:=hm.o4;have hcs:g.cs=gxF g.H g.G++tmF g.H g.G g.fr g.gd:=by unfold MG.cs;rw[hd];rfl
 have h1:Inv w (bK (iR bp P gs)) (ia g.H.L.bp P::(gxF g.H g.G++tmF g.H g.G g.fr g.gd)++(gs.eraseIdx i).flatMap MG.cs) w:=by
  have h2:Inv w (bK (iR bp P gs)) (gs.flatMap MG.cs++[ia bp P]) w:=(hi.perm (List.Perm.swap _ _ _)).WQ;refine h2.perm (List.perm_append_comm.trans ?_);rw[hbp,aP];refine List.Perm.cons _ ?_;rw[<-hcs];exact jz MG.cs hg
 refine Ctr.via (FP hm h1) (λhi2=>Th (g.H.on P) g.G ho4 (by show(P.ow.map _).length=256;grind [hM.Xb.len.ow]) FB w hi2) ?_;rintro v cout w' ⟨B,⟨e1,e2⟩,rfl⟩ h3;have ht:xF g.H.L P ⟨B,(g.H.L.on P).gw,P.pr.set g.H.L.o (-1)⟩:=KG hM.Xb ho4 e1 e2;refine⟨_,⟨⟨B,(g.H.L.on P).gw,P.pr.set g.H.L.o (-1)⟩,⟨hM.Xb.turn ht,by grind [hM.four],λo' q1 q2=>?_,λj x hx=>?_⟩,rfl⟩,?_⟩
 .rw[List.length_set]at q1;have:=(ar.1 hg).1;show(P.pr.set g.H.L.o (-1))[o']? =_;rw[List.getElem?_set_ne Wq1];exact hM.rest o' q1 q2
 .by_cases hji:j=i
  .grind [hM.four,hM.Xb.len.pr]
  rw[List.getElem?_set_ne (Ne.symm hji)]at hx;obtain⟨a1,a2,a3,a4⟩:=hM.at_ j x hx;refine⟨a1,a2,λe=>?_,λe=>by grind⟩;obtain⟨b1,b2⟩:=a3 e;exact⟨sJ.other hM.Xb ht b1 Wq1,b2⟩
 have h5:Inv w (bK (iR bp P gs)) ((gs.set i ⟨g.H,g.G,[],[],true⟩).flatMap MG.cs++[ia bp ⟨B,(g.H.L.on P).gw,P.pr.set g.H.L.o (-1)⟩]) w':=by
  have h4:Inv w (bK (iR bp P gs)) (ia bp ⟨B,(g.H.L.on P).gw,P.pr.set g.H.L.o (-1)⟩::([By g.H g.G true]++(gs.eraseIdx i).flatMap MG.cs)) w':=by
   have h6:=h3.perm (List.Perm.swap _ _ _);rw[show(g.H.on P).L.bp=bp from hbp]at h6;exact h6
  refine h4.perm ((List.perm_append_comm.trans ?_).symm);exact List.Perm.cons _ (wJ MG.cs (y:=⟨g.H,g.G,[],[],true⟩) hg)
 exact(Inv.WT (F:=λ_:Unit=>(gs.set i ⟨g.H,g.G,[],[],true⟩).flatMap MG.cs) (hb:=λ_=>rfl) (p:=λ_=>True) () trivial h5).perm (List.Perm.swap _ _ _)
theorem mon_new(hM:lG bp P gs)(h4:gs.length<4)(n:Nat)(hn0:1<=n)(hn:n<=64)(hs:(n:Int)+fX P.pr 4<=240)(hb:∀x,x∈P.pr->x<=1000)(A B:Oa)(c e:Nat)(l k:Li)(hll:l.length<=n*64)(hlb:u8s l)(hkl:k.length<=1024)(hkb:u8s k)(tr:Bool)
  (hi:Inv w (bK (iR bp P gs)) (iR bp P gs) w) (hA:∀w',dc (bK (iR bp P gs)) w w'->Rd w' .u8 A l.length c l) (hB:∀w',dc (bK (iR bp P gs)) w w'->Rd w' .u8 B k.length e k):
  Ctr prog 55 [.p bp,.i (gs.length:Nat),imgV A c l B e k n,.bool tr] w (iR bp P gs) (λv cs=>∃P' g,(lG bp P' (gs++[g])/\P'.pr=P.pr.set gs.length n/\g.dead=false/\g.H.L.n=n/\g.G.s=St.new/\g.G.U=⟨Mem.load n l,fI⟩/\g.G.d=Dev.init k/\g.G.o.isSome=tr)/\v= .tuple #[.p g.H.bg,.i 0]/\cs=iR bp P' (gs++[g])):=by
 have hno:=hM.rest gs.length (aL _) h4;obtain⟨h0,ht⟩:=NJ (L:=⟨bp,0,0,0,0,gs.length,n,[],[],[]⟩) hM.Xb h4 hno hs;obtain⟨P1,hP1⟩:∃P1:pU,(⟨P.B,P.ow,P.pr.set gs.length n⟩:pU)=P1:=⟨_,rfl⟩;have ht1:xF ⟨bp,0,0,0,0,gs.length,n,[],[],[]⟩ P P1:=hP1▸ht;have hok1:=hM.Xb.turn ht1;have h0':∀x,x∈P.ow->¬x=((gs.length:Nat):Int):=h0;have hmap:P.ow.map (λx=>if x=((gs.length:Nat):Int)then(-1:Int)else x)=P.ow:=(List.map_congr_left (g:=id) (λx hx=>if_neg (h0' x hx))).trans (List.map_id _);have hcap:n<=mH P.ow 256:=by
  have h5:=hok1.cap (L:=⟨bp,0,0,0,0,gs.length,n,[],[],[]⟩) h4 bY;refine aK h5 (Nat.le_of_eq ?_);unfold mH;congr 1;refine List.filter_congr λf hf=>?_
  rw[List.mem_range'_1]at hf;obtain⟨x,hx⟩:∃x,P.ow[f]? =some x:=⟨_,ae (show f<P.ow.length by rw[hM.Xb.len.ow];omega)⟩;have hx1:P1.ow[f]? =some x:=by rw[<-hP1];exact hx
  rw[hx,Bool.eq_iff_iff];constructor
  .intro e1;by_cases e2:x= -1
   .rw[e2];rfl
   grind [lh]
  intro e1;cases e3:(eB.on ⟨bp,0,0,0,0,gs.length,n,[],[],[]⟩ P1).oth f with
  |false=>rfl
  |true=>
   simp_all [lh]
 refine Ctr.via (cin:=[ia bp P]) (rest:=[bP (gs.flatMap MG.cs)]) hi (λhi2=>O2 bp P.B P.ow P.pr hM.Xb.len gs.length n h4 hn0 hn hno hs hb h0 hcap A B c e l k hll hlb hkl hkb tr w hi2 (λw' hk=>hA w' (hi.Xv (cin:=[ia bp P]) (λc hc=>by grind) hk)) (λw' hk=>hB w' (hi.Xv (cin:=[ia bp P]) (λc hc=>by grind) hk))) ?_;rintro v cout w' ⟨H,G,hBo,rfl,rfl⟩ h3;have hHo:H.on P1=H:=by
  obtain⟨bg,bu,bb,be,⟨x1,x2,x3,x4,x5,x6,x7,x8,x9,x10⟩,D⟩:=H;have q1:=hBo.ho;have q2:=hBo.hgw;have q3:=hBo.hgB;have q4:=hBo.hgp;dsimp only at q1 q2 q3 q4;subst q1 q2 q3 q4;rw[<-hP1];show sL.mk _ _ _ _ (eB.mk _ _ _ _ _ _ _ (P.ow.map _) P.B _) _=_;rw[hmap]
 rw[<-hHo]at h3;obtain⟨kk,hkk,h6⟩:=VD h3;have hLo:H.L.o=gs.length:=hBo.ho;have hLb:H.L.bp=bp:=hBo.hbp;refine⟨_,⟨⟨kk.B,kk.ow,kk.pr⟩,⟨H,G,kk.fr,kk.gd,false⟩,⟨⟨hok1.turn (hkk.turns hok1),by grind,λo' q1 q2=>?_,λj x hx=>?_⟩,?_,rfl,hBo.hn,hBo.hs,hBo.hu,hBo.hd,hBo.htr⟩,rfl,rfl⟩,?_⟩
 .rw[aj]at q1;simp at q1;show kk.pr[o']? =_;rw[show kk.pr=P1.pr from hkk.prs,<-hP1];show(P.pr.set gs.length (n:Int))[o']? =_;rw[List.getElem?_set_ne Wq1];exact hM.rest o' Wq1 q2
 .by_cases hj:j<gs.length
  .rw[List.getElem?_append_left hj]at hx;obtain⟨a1,a2,a3,a4⟩:=hM.at_ j x hx;refine⟨a1,a2,λq=>?_,λe=>by show kk.pr[j]? =_;rw[show kk.pr=P1.pr from hkk.prs,<-hP1];grind [List.getElem?_set_ne]⟩;obtain⟨b1,b2⟩:=a3 q;exact⟨sJ.other hok1 (hkk.turns hok1) (sJ.other hM.Xb ht1 b1 bY) Wq1,b2⟩
  rw[List.getElem?_append_right Wq1]at hx;obtain⟨rfl,rfl⟩:j=gs.length/\x=⟨H,G,kk.fr,kk.gd,false⟩:=by
   rcases hjl:j - gs.length with _|m
   .grind
   grind
  exact⟨hLo,hLb,λ_=>⟨sJ.own hok1 hkk,by show G.ok H.L.n;rw[hBo.hn];exact hBo.ok⟩,λe=>by cases e⟩
 .rw[show kk.pr=P1.pr from hkk.prs,<-hP1]
 have h7:Inv w (bK (iR bp P gs)) (bP (gs.flatMap MG.cs)::(ia bp ⟨kk.B,kk.ow,kk.pr⟩::(gxF H G++tmF H G kk.fr kk.gd))) w':=by
  rw[hLb]at h6;exact h6.perm List.perm_append_comm
 have h8:Inv w (bK (iR bp P gs)) ((gs++[(⟨H,G,kk.fr,kk.gd,false⟩:MG)]).flatMap MG.cs++[ia bp ⟨kk.B,kk.ow,kk.pr⟩]) w':=by
  refine h7.WQ.perm ?_;rw[List.flatMap_append,aq];refine List.Perm.append_left _ ?_;have e9:[(⟨H,G,kk.fr,kk.gd,false⟩:MG)].flatMap MG.cs=gxF H G++tmF H G kk.fr kk.gd:=by
   rw[bF,List.flatMap_nil,aw]
   rfl
  rw[e9];exact(List.perm_append_comm (l₁:=gxF H G++tmF H G kk.fr kk.gd) (l₂:=[ia bp ⟨kk.B,kk.ow,kk.pr⟩])).symm
 exact(Inv.WT (F:=λ_:Unit=>(gs++[(⟨H,G,kk.fr,kk.gd,false⟩:MG)]).flatMap MG.cs) (hb:=λ_=>rfl) (p:=λ_=>True) () trivial h8).perm (List.Perm.swap _ _ _)
def Dev.said(d:Dev):Prop:=u8s d.out
section
variable {n:Nat} {op nn:Int} {s:St} {U:Mmu} {d:Dev} {M:Mem} {R:Run}
theorem BG(h:d.said)(k:Int)(v:Nat):(cM n M d k v).2.2.said:=by
 have ha:u8s (d.out++[IntKind.u8.wrap (v:Int)]):=λx hx=>by
  rcases az.1 hx with q|q
  .exact h x q
  rw[aC.1 q];exact uZ _
 unfold cM fu
 repeat (first|exact h|exact ha|refine bR (λq:Bool×Mem×Dev=>q.2.2.said) ?_ ?_)
theorem Eb(h:d.said)(k count:Int):(gb d k count).2.said:=by
 unfold gb
 repeat (first|exact h|refine bR (λq:(Int×Bool)×Dev=>q.2.said) ?_ ?_)
theorem Oi(h:d.said)(va:Nat):(jZ n R U d va).d.said:=by
 unfold jZ;refine bR (λm:gi=>m.d.said) h ?_;exact bR (λm:gi=>m.d.said) (Eb h _ _) h
theorem MT(h:d.said)(va v:Nat):(jY n R U d va v).d.said:=by
 unfold jY;refine bR (λm:gi=>m.d.said) h ?_;exact bR (λm:gi=>m.d.said) (BG h _ _) h
theorem Km{m:gi}(h:m.d.said):(dK n op nn m).d.said:=by
 unfold dK;refine bR (λm:gi=>m.d.said) (Oi h _) ?_;refine bR (λm:gi=>m.d.said) (MT h _ _) ?_
 repeat (first|exact h|refine bR (λm:gi=>m.d.said) h ?_)
theorem Su(h:d.said):(pB n s op nn U d).d.said:=by
 unfold pB;cases dI op nn (eW s op)with
 |some R=>exact h
 |none=>exact bR (λm:gi=>m.d.said) h (Km h)
theorem PF(h:d.said):(wO n s op nn U d).2.2.said:=by
 unfold wO;refine bR (λq:Res×Mmu×Dev=>q.2.2.said) h ?_;exact bR (λq:Res×Mmu×Dev=>q.2.2.said) h (Su h)
theorem Cy(h:d.said)(c:Int):(d.tick c).said:=by
 unfold Dev.tick;exact bR Dev.said h h
theorem zE(h:d.said):(dO n s U d).d.said:=by
 unfold dO;refine bR (λb:EP=>b.d.said) h ?_;unfold pL;exact bR (λb:EP=>b.d.said) (Cy h _) (Cy h _)
theorem CT(Wt:Nat):∀(k:Nat) {s:St} (p:Nat) {U:Mmu} {d:Dev},d.said->(eQ n Wt k s p U d).2.2.said
 |0,s,p,U,d,h=>h
 |k+1,s,p,U,d,h=>by
  rw[eQ];cases eV n U.m p with
  |none=>exact h
  |some q=>
   obtain⟨⟨op,nn⟩,sz⟩:=q;exact bR (λq:St×Mmu×Dev=>q.2.2.said) (CT Wt k _ (PF h)) (PF h)
theorem Lb(h:d.said):(dL n s U d).2.2.said:=by
 unfold dL;exact bR (λq:St×Mmu×Dev=>q.2.2.said) (CT _ _ _ (zE h)) (zE h)
theorem yJ{m f:Int}:∀(k:Nat) {q:St×Mmu×Dev},q.2.2.said->(m7 n m f k q).2.2.said
 |0,q,h=>h
 |k+1,q,h=>by
  unfold m7;exact bR (λq:St×Mmu×Dev=>q.2.2.said) (yJ k (Lb h)) h
theorem Ry(m:Int)(h:d.said):(g9 n m s U d).2.2.said:=yJ _ h
theorem OF(k:Li):(Dev.init k).said:=λx hx=>by cases hx
end
def Dev.WY(d:Dev)(l:Li):Nat:=min l.length (64 - d.inp.length)
def Dev.WR(d:Dev)(l:Li):Dev:={d with inp:=d.inp++l.take (d.WY l),Wx:=bif decide (0<d.WY l)then bits .or .u32 d.Wx 2 else d.Wx}
def Dev.raise(d:Dev)(k:Nat):Dev:={d with Wx:=bits .or .u32 d.Wx (nT [k])}
structure GIn(d:Dev):Prop where
 i64:d.inp.length<=64
section
variable {n:Nat} {op nn:Int} {s:St} {U:Mmu} {d:Dev} {M:Mem} {R:Run}
theorem Gk(h:GIn d)(k:Int)(v:Nat):GIn (cM n M d k v).2.2:=by
 unfold cM fu
 repeat (first|exact h|exact⟨h.i64⟩|refine bR (λq:Bool×Mem×Dev=>GIn q.2.2) ?_ ?_)
theorem K3(h:GIn d)(k count:Int):GIn (gb d k count).2:=by
 have ht:GIn {d with inp:=d.inp.tail}:=⟨by show d.inp.tail.length<=64;rw[List.length_tail];have:=h.i64;omega⟩;unfold gb
 repeat (first|exact h|exact ht|refine bR (λq:(Int×Bool)×Dev=>GIn q.2) ?_ ?_)
theorem lode_in(h:GIn d)(va:Nat):GIn (jZ n R U d va).d:=by
 unfold jZ;refine bR (λm:gi=>GIn m.d) h ?_;exact bR (λm:gi=>GIn m.d) (K3 h _ _) h
theorem stow_in(h:GIn d)(va v:Nat):GIn (jY n R U d va v).d:=by
 unfold jY;refine bR (λm:gi=>GIn m.d) h ?_;exact bR (λm:gi=>GIn m.d) (Gk h _ _) h
theorem Se{m:gi}(h:GIn m.d):GIn (dK n op nn m).d:=by
 unfold dK;refine bR (λm:gi=>GIn m.d) (lode_in h _) ?_;refine bR (λm:gi=>GIn m.d) (stow_in h _ _) ?_
 repeat (first|exact h|refine bR (λm:gi=>GIn m.d) ?_ ?_)
theorem mid_in(h:GIn d):GIn (pB n s op nn U d).d:=by
 unfold pB;cases dI op nn (eW s op)with
 |some R=>exact h
 |none=>exact bR (λm:gi=>GIn m.d) h (Se h)
theorem do_in(h:GIn d):GIn (wO n s op nn U d).2.2:=by
 unfold wO;refine bR (λq:Res×Mmu×Dev=>GIn q.2.2) h ?_;exact bR (λq:Res×Mmu×Dev=>GIn q.2.2) h (mid_in h)
theorem MC(h:GIn d)(c:Int):GIn (d.tick c):=by
 unfold Dev.tick;exact bR GIn h ⟨h.i64⟩
theorem Jg(h:GIn d):GIn (dO n s U d).d:=by
 unfold dO;refine bR (λb:EP=>GIn b.d) h ?_;unfold pL;exact bR (λb:EP=>GIn b.d) (MC h _) (MC h _)
theorem M9{Wt:Nat}:∀(k:Nat) {s:St} {p:Nat} {U:Mmu} {d:Dev},GIn d->GIn (eQ n Wt k s p U d).2.2
 |0,s,p,U,d,h=>h
 |k+1,s,p,U,d,h=>by
  unfold eQ;cases eV n U.m p with
  |none=>exact h
  |some o=>
   obtain⟨⟨op,nn⟩,z⟩:=o;have hd:=do_in (n:=n) (s:=s) (op:=op) (nn:=nn) (U:=U) h;exact bR (λq:St×Mmu×Dev=>GIn q.2.2) (M9 k hd) hd
theorem T0(h:GIn d):GIn (dL n s U d).2.2:=by
 unfold dL;dsimp only;exact bR (λq:St×Mmu×Dev=>GIn q.2.2) (M9 8 (Jg h)) (Jg h)
end
theorem lines1:nT [1]=2:=by decide
theorem Hk{n:Nat}{m f:Int}:∀(k:Nat) {q:St×Mmu×Dev},GIn q.2.2->GIn (m7 n m f k q).2.2
 |0,q,h=>h
 |k+1,q,h=>by
  unfold m7;exact bR (λq:St×Mmu×Dev=>GIn q.2.2) (Hk k (T0 h)) h
variable{n:Nat}{s:St}{U:Mmu}{d:Dev}
theorem run_in(m:Int)(h:GIn d):GIn (g9 n m s U d).2.2:=Hk _ h
theorem init_in(k:Li):GIn (Dev.init k):=⟨ap _⟩
theorem Ct(h:GOk n s U d)(hi:GIn d){l:Li}(hl:u8s l):GOk n s U (d.WR l)/\GIn (d.WR l):=by
 have hw:=h.dv.wf;have hlen:(d.inp++l.take (d.WY l)).length<=64:=by
  have:=hi.i64;unfold Dev.WY;rw[aj,aD];omega
 have hb:u8s (d.inp++l.take (d.WY l)):=λx hx=>(az.1 hx).elim (hw.XK x) (λq=>hl x (aB q))
 exact⟨⟨h.wf,h.right,h.u,⟨⟨hb,hw.Ww,hw.Xn,hw.Wb,hw.place,aK hlen bX⟩,bR u32 (iW .or d.Wx 2) h.dv.Wx,h.dv.mask,h.dv.timer,h.dv.status⟩,⟨h.lines.mask⟩⟩,⟨hlen⟩⟩
theorem yR(h:GOk n s U d)(hi:GIn d)(k:Nat):GOk n s U (d.raise k)/\GIn (d.raise k):=
 ⟨⟨h.wf,h.right,h.u,⟨h.dv.wf.re rfl rfl rfl rfl,iW .or d.Wx _,h.dv.mask,h.dv.timer,h.dv.status⟩,⟨h.lines.mask⟩⟩,⟨hi.i64⟩⟩
theorem CC{l:Li}{N m:Nat}(h:min l.length m=N):(l.take N).length=N:=by rw[aD];omega
theorem RK{W:World}{A:Oa}{c N m:Nat}{l:Li}(h:Rd W .u8 A l.length c l)(hN:min l.length m=N):Rd W .u8 A N c (l.take N):=by
 have h2:=iv h N;rwa[CC hN]at h2
theorem TK(b:Nat)(Ao:Oa)(no co:Nat)(Ai:Oa)(ci:Nat)(inp:Li)(h64:inp.length<=64)(A:Oa)(c:Nat)(l:Li)(hl:l.length<=9223372036854775807)(N:Nat)(hN:min l.length (64 - inp.length)=N)(w:World)
  (hi:Inv w (bK [BM b Ao no co Ai inp.length ci,b8 Ai ci inp]) [BM b Ao no co Ai inp.length ci,b8 Ai ci inp] w) (h:∀w',dc (bK [BM b Ao no co Ai inp.length ci,b8 Ai ci inp]) w w'->Rd w' .u8 A l.length c l):
  Ctr prog 136 [.p b,.slice A l.length c] w [BM b Ao no co Ai inp.length ci,b8 Ai ci inp] (λv cs=>∃Ai' ci',v= .i (N:Int)/\cs=[BM b Ao no co Ai' (inp++l.take N).length ci',b8 Ai' ci' (inp++l.take N)]):=by
 have hcap:=(h w (dc.refl _ _)).cap;have htl:=CC hN;refine Zfn func136 ntmps136 hi ?_;refine jl ?_;refine Zy (i5 (Zv rfl) (Zv rfl) (show _=((64 - inp.length:Nat):Int)from by rw[bD _ ⟨by omega,by omega⟩];omega)) ?_;refine Zy (Js (Zv rfl) (Zv rfl) (show _=(N:Int)from by split<;>omega)) ?_;refine Z_4 ?_;refine bU (Zdn [8,11]) Zk (pS ?_);refine ZFe 3 1 ?_;refine BW ?_;refine Zy4 7 rfl (eC N rfl Zrf (Zv rfl) (Zv rfl) pe Wq2) ?_;refine ig ?_;refine gX rfl rfl (bV (e:=5) (sz:=1) (bytes:=1) rfl rfl Za rfl rfl (λw hi=>(RK (h w hi.WB) hN)) cN Wq9 Wq1) ZJ rfl ?_;rintro _ _ ⟨A2,c2,rfl,rfl⟩;rw[show inp.length+N=(inp++l.take N).length by rw[aj,htl],show ints .u8 inp++ints .u8 (l.take N)=ints .u8 (inp++l.take N)from cj inp (l.take N)];refine ZE 9 ?_;refine ZFe 10 1 ?_;refine cW 11 Zk (o9 ?_);refine Z_8 ?_;refine Gy ?_;exact⟨A2,c2,rfl,rfl⟩
theorem Gt(D:rx)(bm:Nat)(X:ov)(d:Dev)(h64:d.inp.length<=64)(A:Oa)(c:Nat)(l:Li)(hl:l.length<=9223372036854775807)(w:World)(hi:Inv w (bK (mO D bm X d)) (mO D bm X d) w)(h:∀w',dc (bK (mO D bm X d)) w w'->Rd w' .u8 A l.length c l):
  Ctr prog 117 [.p D.bs,.slice A l.length c] w (mO D bm X d) (λv cs=>∃X',v= .i (d.WY l:Int)/\cs=mO D bm X' (d.WR l)):=by
 obtain⟨N,hN⟩:=Zgn (d.WY l);have hT:d.WR l={d with inp:=d.inp++l.take N,Wx:=bif decide (0<N)then bits .or .u32 d.Wx 2 else d.Wx}:=by unfold Dev.WR;rw[hN]
 rw[hT,hN];unfold Dev.WY at hN;have HR:=λA c p w hi h=>nU D.bi p d.mask A c [1] (λx hx=>by simp at hx;omega) w hi h
 rw[lines1]at HR;refine Zfn func117 ntmps117 hi ?_;refine fb ?_;refine dy ([BM D.bcn X.Ao d.out.length X.co X.Ai d.inp.length X.ci,b8 X.Ai X.ci d.inp]) (λw hi hin=>TK D.bcn X.Ao d.out.length X.co X.Ai X.ci d.inp h64 A c l hl N hN w hin (λw' hk=>h w' (hi.Xv (λc hc=>by simp only[mO,az,aJ,aY]at hc|-;grind) hk))) ?_;rintro _ _ ⟨Ai',ci',rfl,rfl⟩;refine mZ ?_ ?_<;>intro hc2
 .simp only[ac]at hc2;rw[aE (show 0<N by omega),ai];refine Z_5 ?_;refine jD ?_;rintro _ _ ⟨b18,rfl,rfl⟩;refine ZcM ([s8 D.bi d.Wx d.mask]) (λw hi hin=>HR (sA b18) 1 d.Wx w hin (λw' hk=>hi.WZ Zi (Zhc (slv 3 1 (sA b18) 1 1 (ints .i64 [1]))) hk)) ?_;refine Z_9 ?_;exact bO (mO D bm ⟨X.Ao,X.co,Ai',ci'⟩ {d with inp:=d.inp++l.take N,Wx:=bits .or .u32 d.Wx 2}) Zj Wq391
 simp only[aa]at hc2;rw[aF (show¬0<N by omega),ah];refine Z_9 ?_;exact bO (mO D bm ⟨X.Ao,X.co,Ai',ci'⟩ {d with inp:=d.inp++l.take N}) Zj Wq391
theorem KQ(H:sL)(G:Gst)(h64:G.d.inp.length<=64)(A:Oa)(c:Nat)(l:Li)(hl:l.length<=9223372036854775807)(w:World)(hi:Inv w (bK (gsF H G)) (gsF H G) w)(h:∀w',dc (bK (gsF H G)) w w'->Rd w' .u8 A l.length c l):
  Ctr prog 86 [.p H.bg,.slice A l.length c] w (gsF H G)
   (λv cs=>∃Y',v= .i (G.d.WY l:Int)/\cs=gsF H ⟨G.s,G.X,Y',G.U,G.d.WR l,G.o⟩):=by
 obtain⟨s,X,Y,U,d,o⟩:=G;dsimp only at h64|-;have HB:=Gt H.D H.L.bm Y d h64 A c l hl;obtain⟨d2,hd⟩:=Zgn (d.WR l);obtain⟨N,hN⟩:=Zgn (d.WY l);rw[hd,hN]at HB|-;refine Zfn func86 ntmps86 hi ?_;refine fH ?_;refine ZFa 22 ?_;refine iX ?_;refine Z_9 ?_;refine dy (mO H.D H.L.bm Y d) (λw hi hin=>HB w hin (λw' hk=>h w' (hi.WU Zi hk))) ?_;rintro _ _ ⟨Y2,rfl,rfl⟩;refine Z_4 ?_;refine bO (gsF H ⟨s,X,Y2,U,d2,o⟩) Zj (Zrb ((gsF H ⟨s,X,Y2,U,d2,o⟩)) ?_);exact⟨Y2,rfl,rfl⟩
theorem Fh{l:List α}{a:α}(h:l[i]? =some a):l.set i a=l:=by
 grind [List.getElem?_eq_some_iff,List.set_getElem_self]
structure It where
 kind:Int
 Wq:Int
 n:Int
 b:List Int
structure Ou where
 n:Int
 v:Vw
 why:Int
def gj:Vw:=⟨St.zero,[],[],[],[],0,0,false⟩
structure Ag where
 n:Nat
 s:St
 U:Mmu
 d:Dev
 dead:Bool
def Ag.view(a:Ag):Vw:=bif a.dead then yh else⟨a.s,a.U.m.data,a.d.out,a.d.inp,a.d.Ww,a.d.Wx,a.d.mask,false⟩
def Ag.run(m:Int)(a:Ag):Ag:=⟨a.n,(g9 a.n m a.s a.U a.d).1,(g9 a.n m a.s a.U a.d).2.1,(g9 a.n m a.s a.U a.d).2.2,a.dead⟩
def Ag.ran(m:Int)(a:Ag):Int:=IntKind.i64.wrap (IntKind.u64.wrap ((a.run m).s.count - a.s.count))
def Ag.one(a:Ag)(x:It):Ag×Ou:=
 bif a.dead&&(x.kind !=6)then(a,⟨0,gj,26⟩)else
 bif x.kind==1 then(a.run (min x.n 10000),⟨a.ran (min x.n 10000),gj,0⟩)else
 bif x.kind==2 then({a with d:=a.d.WR x.b},⟨a.d.WY x.b,gj,0⟩)else
 bif x.kind==3 then(bif decide (x.n<0)||decide (8<=x.n)then(a,⟨0,gj,1⟩)else({a with d:=a.d.raise x.n.toNat},⟨0,gj,0⟩))else
 bif x.kind==4 then(a,⟨0,gj,0⟩)else
 bif x.kind==5 then({a with dead:=true},⟨0,gj,0⟩)else
 bif x.kind==6 then(a,⟨0,a.view,0⟩)else(a,⟨0,gj,1⟩)
structure Ag.WV(k:Nat)(a:Ag):Prop where
 g:GOk a.n a.s a.U a.d
 i:GIn a.d
 s:a.d.said
 o:a.d.out.length<=k
 n64:a.n<=64
theorem u00:u32 0:=⟨Int.le_refl _,show(0:Int)<=4294967295 by decide⟩
theorem Vr:St.zero.wf:=⟨u00,u00,u00,u00,u00,u00,u00,⟨Int.le_refl _,show(0:Int)<=18446744073709551615 by decide⟩,λx hx=>jT,λx hx=>jT⟩
theorem fa:u8s []:=λx hx=>jT
theorem GO:gj.wf:=⟨Vr,fa,fa,fa,fa⟩
theorem TJ:yh.wf:=⟨Vr,fa,fa,fa,fa⟩
theorem Ng(h:v.s=St.zero/\v.m=[]/\v.o=[]/\v.i=[]/\v.k=[])(w:World):oV w v xZ:=by
 obtain⟨s,m,o,i,k,p,q,b⟩:=v;obtain⟨h1,h2,h3,h4,h5⟩:=h;dsimp only at h1 h2 h3 h4 h5;subst h1 h2 h3 h4 h5;exact⟨⟨nH w .u32,nH w .u32,ap _,ap _⟩,nH w .u8,nH w .u8,nH w .u8,nH w .u8⟩
theorem uq(w:World):oV w gj xZ:=Ng ⟨rfl,rfl,rfl,rfl,rfl⟩ w
theorem I3(w:World):oV w yh xZ:=Ng ⟨rfl,rfl,rfl,rfl,rfl⟩ w
section
variable {k:Nat} {a:Ag} {x:It} {l:List Ag} {i:Nat}
theorem Ag.WV.wf(h:a.WV k):a.view.wf:=by
 unfold Ag.view;refine bR Vw.wf TJ ?_;exact⟨h.g.wf,h.g.u.m.db,h.s,h.g.dv.wf.XK,h.g.dv.wf.Xn⟩
theorem Ag.WV.le(h:a.WV k){m:Nat}(hm:k<=m):a.WV m:=⟨h.g,h.i,h.s,aK h.o hm,h.n64⟩
theorem Ag.WV.run(h:a.WV k){m:Int}(hm:m<=10000):(a.run m).WV (k+80000):=by
 have h1:=(Fj (n:=a.n) (by have:=h.n64;omega) m h.g (gC.fresh (room:=8) ⟨by decide,by decide⟩)).2.2.1;have h2:=M6 m h.g;refine⟨h1,run_in m h.i,Ry m h.s,?_,h.n64⟩;show(g9 a.n m a.s a.U a.d).2.2.out.length<=_;have:=h.o;omega
theorem Ag.WV.one(h:a.WV k)(hb:u8s x.b):(a.one x).1.WV (k+80000):=by
 have h0:=h.le (show k<=k+80000 by omega);unfold Ag.one;refine bR (λq:Ag×Ou=>q.1.WV (k+80000)) h0 ?_;refine bR (λq:Ag×Ou=>q.1.WV (k+80000)) (h.run Wq1) ?_;refine bR (λq:Ag×Ou=>q.1.WV (k+80000)) ?_ ?_
 .obtain⟨h1,h2⟩:=Ct h.g h.i hb;exact⟨h1,h2,h.s,h0.o,h.n64⟩
 refine bR (λq:Ag×Ou=>q.1.WV (k+80000)) ?_ ?_
 .refine bR (λq:Ag×Ou=>q.1.WV (k+80000)) h0 ?_;obtain⟨h1,h2⟩:=yR h.g h.i x.n.toNat;exact⟨h1,h2,h.s,h0.o,h.n64⟩
 refine bR (λq:Ag×Ou=>q.1.WV (k+80000)) h0 ?_;refine bR (λq:Ag×Ou=>q.1.WV (k+80000)) ⟨h0.g,h0.i,h0.s,h0.o,h0.n64⟩ ?_
 grind
theorem Ag.WV.out(h:a.WV k):(a.one x).2.v.wf:=by
 grind [Ag.one,GO,h.wf]
def eN(l:List Ag)(x:It):List Ag×Ou:=
 bif decide (0<=x.Wq)&&decide (x.Wq<(l.length:Int))then
  match l[x.Wq.toNat]? with
  |some a=>(l.set x.Wq.toNat (a.one x).1,(a.one x).2)
  |none=>(l,⟨0,gj,22⟩)
 else(l,⟨0,gj,22⟩)
theorem Ib(h:l[i]? =some a)(hx:x.Wq=(i:Int)):eN l x=(l.set i (a.one x).1,(a.one x).2):=by
 grind [eN]
theorem Ia(h:(decide (0<=x.Wq)&&decide (x.Wq<(l.length:Int)))=false):eN l x=(l,⟨0,gj,22⟩):=by
 grind [eN]
theorem v5{P:List Ag×Ou->Prop}(h1:∀(i:Nat) (a:Ag),l[i]? =some a->x.Wq=(i:Int)->P (l.set i (a.one x).1,(a.one x).2))(h2:(∀i:Nat,i<l.length->x.Wq≠(i:Int))->P (l,⟨0,gj,22⟩)):P (eN l x):=by
 cases hc:(decide (0<=x.Wq)&&decide (x.Wq<(l.length:Int)))with
 |false=>
  grind [Ia]
 |true=>
  rw[au,ac,ac]at hc;obtain⟨i,hi⟩:=ao hc.1;have hl:l[i]? =some (l[i]'(by omega)):=ae _
  grind [Ib]
theorem NO:(eN l x).1.length=l.length:=v5 (P:=λq=>q.1.length=l.length) (λi a _ _=>List.length_set) Zrf
theorem y7(h:∀a,a∈l->a.WV k)(hb:u8s x.b):∀a,a∈(eN l x).1->a.WV (k+80000):=by
 refine v5 (P:=λq=>∀a,a∈q.1->a.WV (k+80000)) (λi a hl _ b hm=>?_) (λ_ b hm=>(h b hm).le Wq1);rcases List.mem_or_eq_of_mem_set hm with q|rfl
 .exact(h b q).le Wq1
 exact(h a (ak hl)).one hb
theorem H9(h:∀a,a∈l->a.WV k):(eN l x).2.v.wf:=v5 (P:=λq=>q.2.v.wf) (λi a hl _=>(h a (ak hl)).out) (λ_=>GO)
end
def ER(l:List Ag)(xs:List It):List Ag:=xs.foldl (λl x=>(eN l x).1) l
def lx:List Ag->List It->List Ou
 |_,[]=>[]
 |l,x::xs=>(eN l x).2::lx (eN l x).1 xs
theorem NL{l:List Ag}{xs:List It}{x:It}:ER l (xs++[x])=(eN (ER l xs) x).1:=by
 grind [ER]
theorem yZ{x:It}:∀{xs:List It} {l:List Ag},lx l (xs++[x])=lx l xs++[(eN (ER l xs) x).2]
 |[],l=>rfl
 |y::xs,l=>by
  show(eN l y).2::lx (eN l y).1 (xs++[x])=_;rw[yZ (xs:=xs)]
  rfl
theorem qC:∀{xs:List It} {l:List Ag},(lx l xs).length=xs.length
 |[],_=>rfl
 |x::xs,l=>congrArg Nat.succ (qC (xs:=xs))
theorem H5:∀{xs:List It} {l:List Ag},(ER l xs).length=l.length
 |[],_=>rfl
 |x::xs,l=>(H5 (xs:=xs) (l:=(eN l x).1)).trans NO
theorem Sh{a:Ag}{x:It}(h:a.dead=true):(a.one x).1=a/\(a.one x).2=(if x.kind=6 then⟨0,yh,0⟩else⟨0,gj,26⟩):=by
 grind [Ag.one,Ag.view]
structure ItR where
 kind:Int
 Wq:Int
 n:Int
 A:Option Addr
 c:Nat
 b:List Int
abbrev ItR.it(x:ItR):It:=⟨x.kind,x.Wq,x.n,x.b⟩
abbrev ItR.cells(x:ItR):List Value:=[.i x.kind,.i x.Wq,.i x.n,.slice x.A x.b.length x.c]
theorem ItR.V8(x:ItR):x.cells.length=4:=rfl
abbrev Ou.cells(o:Ou)(Y:VAd):List Value:= .i o.n::(o.v.cells Y++[.i o.why])
structure OuR where
 o:Ou
 Y:VAd
abbrev OuR.cells(z:OuR):List Value:=z.o.cells z.Y
theorem OuR.V8(z:OuR):z.cells.length=25:=rfl
structure Mon where
 bp:Nat
 A:Option Addr
 c:Nat
 P:pU
 gs:List MG
def MG.abs(g:MG):Ag:=⟨g.H.L.n,g.G.s,g.G.U,g.G.d,g.dead⟩
def Mon.l(m:Mon):List Ag:=m.gs.map MG.abs
abbrev sd(g:MG):Value:= .p g.H.bg
structure Mon.ok(k:Nat)(m:Mon):Prop where
 g:lG m.bp m.P m.gs
 f:∀a,a∈m.l->a.WV k
theorem Mon.len(m:Mon):m.l.length=m.gs.length:=ax ..
theorem Mon.at_{m:Mon}(h:m.gs[i]? =some g):m.l[i]? =some g.abs:=by
 grind [Mon.l]
theorem Mon.get{m:Mon}{a:Ag}(h:m.l[i]? =some a):∃g,m.gs[i]? =some g/\g.abs=a:=by
 grind [Mon.l]
theorem Mon.ok.le{k j:Nat}{m:Mon}(h:m.ok k)(hj:k<=j):m.ok j:=⟨h.g,λa ha=>(h.f a ha).le hj⟩
theorem Tf{g':MG}(h:gs[i]? =some g)(he:g'.H=g.H):(gs.set i g').map sd=gs.map sd:=by
 rw[List.map_set];have e:sd g'=sd g:=by unfold sd;rw[he]
 rw[e];apply List.ext_getElem?
 grind
abbrev lR(bm:Nat)(m:Mon):bJ:=row bm [.p m.bp,.slice m.A m.gs.length m.c] 115
abbrev ptrC(m:Mon):bJ:=slv 116 1 m.A m.gs.length m.c (m.gs.map sd)
abbrev eE(bm:Nat)(m:Mon):List bJ:=[lR bm m,ptrC m,ia m.bp m.P,bP (m.gs.flatMap MG.cs)]
theorem NG(bp:Nat)(o n:Int)(h:4<=o\/n<1\/64<n)(w:World):CW prog 76 [.p bp,.i o,.i n] w (.tuple #[.pointer none,.i 1]):=by
 refine Zfs func76 ntmps76 ?_;refine om ?_;refine Z_9 ?_;refine cn rfl ((by rcases h with h|h|h;(rw[aE h,Bool.or_true,Bool.true_or,Bool.true_or]);(rw[aE h,Bool.or_true,Bool.true_or]);(rw[aE h,Bool.or_true]))) (Z_8 ?_);exact lc
theorem gnoL_ok(bp:Nat)(o n:Int)(A B:Oa)(c e na nb:Nat)(ha:na<=4611686018427387904)(h:(if 0>n then 0 else n)<(((na+63)/64:Nat):Int)\/1024<nb)(tr:Bool)(w:World):
  CW prog 55 [.p bp,.i o,.agg #[.slice A na c,.slice B nb e,.i n],.bool tr] w (.tuple #[.pointer none,.i 3]):=by
 refine Zfs func55 ntmps55 ?_;refine Z_2 ?_;refine ZO λb6=>?_;refine ng ?_;refine kv ?_;refine Zs (bU (Zdn []) Zk ?_);refine ZFe 0 0 ?_;refine ZG 1 ?_;refine U4 ?_;refine ZTn (λw hi=>qL na ha w) ?_;rintro _ _ ⟨rfl,rfl⟩;refine UD ?_;refine Zt (cn rfl ((by rcases h with h|h;(rw[aE h,Bool.true_or]);(rw[aE (show(1024:Int)<(nb:Int) by omega),Bool.or_true]))) ?_);refine Z_9 ?_;exact lc
theorem gnoB_ok(bp:Nat)(o n:Int)(A B:Oa)(c e na nb:Nat)(ha:na<=4611686018427387904)(h0:¬(if 0>n then 0 else n)<(((na+63)/64:Nat):Int))(hb:¬1024<nb)(h:n<1\/64<n)(tr:Bool)(w:World):
  CW prog 55 [.p bp,.i o,.agg #[.slice A na c,.slice B nb e,.i n],.bool tr] w (.tuple #[.pointer none,.i 1]):=by
 refine Zfs func55 ntmps55 ?_;refine Z_2 ?_;refine ZO λb6=>?_;refine ng ?_;refine kv ?_;refine Zs (bU (Zdn []) Zk ?_);refine ZFe 0 0 ?_;refine ZG 1 ?_;refine U4 ?_;refine ZTn (λw hi=>qL na ha w) ?_;rintro _ _ ⟨rfl,rfl⟩;refine UD ?_;refine Zt (cy rfl ((by rw[aF h0,aF (show¬(1024:Int)<(nb:Int) by omega)];rfl)) ?_);refine Z_9 ?_;refine ZSe (λw hi=>NG bp o n (.inr h) w) ?_;refine jl ?_;refine pX ?_;refine Z_9 ?_;exact lc
theorem Kj(bp:Nat)(B ow pr:Li)(hl:du B ow pr)(o n:Nat)(ho:o<4)(hn:n<=64)(h1:pr[o]? =some (-1))(hs:240<(n:Int)+fX pr 4)(hb:∀x,x∈pr->x<=1000)(w:World)(h:(dD bp B ow pr).ok w):
  CW prog 107 [.p bp,.i o,.i n] w (.i 13):=by
 have hpl:=hl.pr;have hbd:∀k,k<=4->0<=fX pr k/\fX pr k<=1000*(k:Int):=by
  intro k
  induction k with
  |zero=>intro _;exact⟨by simp[fX],by simp[fX]⟩
  |succ k ih=>
   intro hk;have h1:=ih Wq1;have hkl:k<pr.length:=by omega
   have h2:=hb _ (List.getElem_mem hkl);rw[oB hkl];split<;>omega
 refine Zfs func107 ntmps107 ?_;refine fH ?_;refine LB ?_;refine fb ?_;refine cy rfl ((by rw[aF (show¬(n:Int)<0 by omega),aF (show¬(64:Int)<n by omega)];rfl)) (Z_5 ?_);refine UU ?_;refine dQ (bM Zrf Zv0) (dr h (Fv hl h1)) rfl (Z_4 ?_);refine kv ?_;refine fb ?_;have e0:fX pr 0=0:=rfl;refine Z_2 ?_;refine ZFa 16640 ?_;refine dQ (bW (vs:=ints .i64 pr) Zrf (λw=>by rw[dA,hpl];rfl) (Zv rfl)) (uC (o:=16640) h (Hw hl)) rfl (Z_4 ?_);refine wLo (λk:Nat=>[(0,.p bp),(1,.i o),(2,.i n),(7,.i (n+fX pr k)),(34,.agg (ints .i64 pr).toArray),(35,.i (k:Int))]) (λ_=>[]) (λk=>k<=4) (λk=>4 - k) (0) (ap _) ?_;rintro k hk;refine Zw6 ?_ ?_<;>intro hc7
 .simp only[ac]at hc7;have hkl:k<pr.length:=by omega
  have hbk:=hbd k hk;have hbk2:=hb _ (List.getElem_mem hkl);refine Wq478 ?_;refine dQ (eK (pk rfl) (pk rfl) (show IntKind.i64.wrap _=n+fX pr (k+1) by rw[oB hkl];refine(bD _ ⟨?_,?_⟩).trans Wq1<;>split<;>omega)) (λ_ _=>trivial) rfl ?_;refine lI ?_;refine qMM (k+1) ⟨by omega,by omega⟩
 simp only[aa]at hc7;obtain rfl:k=4:=by omega
 refine fb ?_;exact cn rfl ((aE Wq1)) Ez
theorem gnoF_ok(bp:Nat)(W ow pr:Li)(hl:du W ow pr)(o n:Nat)(ho:o<4)(hn0:1<=n)(hn:n<=64)(h1:pr[o]? =some (-1))(hs:240<(n:Int)+fX pr 4)(hb:∀x,x∈pr->x<=1000)(A B:Oa)(c e na nb:Nat)(ha:na<=n*64)(hnb:nb<=1024)(tr:Bool)(w:World)(h:(dD bp W ow pr).ok w):
  CW prog 55 [.p bp,.i o,.agg #[.slice A na c,.slice B nb e,.i n],.bool tr] w (.tuple #[.pointer none,.i 13]):=by
 have HN:∀w,(dD bp W ow pr).ok w->Ctr prog 76 [.p bp,.i o,.i n] w [] (λv cs=>v= .tuple #[.pointer none,.i 13]/\cs=[]):=λw h=>by
  refine Zfs func76 ntmps76 ?_;refine om ?_;refine Z_9 ?_;refine cy rfl ((by rw[aF (show¬(o:Int)<0 by omega),aF (show¬(4:Int)<=o by omega),aF (show¬(n:Int)<1 by omega),aF (show¬(64:Int)<n by omega)];rfl)) (Z_8 ?_);refine ZSe (λw hi=>Kj bp W ow pr hl o n ho hn h1 hs hb w (bJ.old h hi)) ?_;refine Z_9 ?_;refine pX ?_;refine Z_9 ?_;exact lc
 refine Zfs func55 ntmps55 ?_;refine Z_2 ?_;refine ZO λb6=>?_;refine ng ?_;refine kv ?_;refine Zs (bU (Zdn []) Zk ?_);refine ZFe 0 0 ?_;refine ZG 1 ?_;refine U4 ?_;refine ZTn (λw hi=>qL na Wq1 w) ?_;rintro _ _ ⟨rfl,rfl⟩;refine UD ?_;refine Zt (cy rfl ((by rw[if_neg (show¬(0:Int)>(n:Int) by omega),aF (show¬(n:Int)<(((na+63)/64:Nat):Int) by omega),aF (show¬(1024:Int)<(nb:Int) by omega)];rfl)) ?_);refine Z_9 ?_;refine ZSe (λw hi=>HN w (bJ.old h hi)) ?_;refine jl ?_;refine pX ?_;refine Z_9 ?_;exact lc
end
end Go.Ink
