/- For every input the law GuestPlays answers true and leaves every argument as it was; the table of math/bits is what the program's text lays (the card ties it); no other condition. -/
import Derived.Test.YtepfimeihngjoaaGreatDoorYbj
import Derived.JoinedOf
import Derived.Test.YtepfimeihngjoaaGreatDoorCards
import Derived.Test.YtepfimeihngjoaaGreatDoorTie
import Derived.SevenTiedAt
import Derived.Test.YtepfimeihngjoaaGreatDoorYzaF
set_option linter.all false
set_option maxRecDepth 100000
set_option maxHeartbeats 4000000
namespace Go.Proofs.YtepfimeihngjoaaGreatDoor
open List renaming length→J
open Go.RowKit Go.Ink Go.Proofs.Tryz
attribute [local irreducible] UL bM
abbrev O0(L:ez)(M:Uy)(ow:Li):bH:=VD [L.bp,L.bt,L.bf,L.bg,L.bm] (zi L M.SD) ir (λk=>dK L M k/\k.ow=ow)
variable{M:Uy}{ow:Li}{w:World}
theorem memO_ok{L:ez}(h:(O0 L M ow).ok w):(eY L M).ok w:=by
 obtain⟨a,h1,h2,h3⟩:=h;exact⟨a,h1.1,h2,h3⟩
variable{ops:Array Oper}{Q:kW}{fr:Fr}{cs r:List bH}{L:ez}
theorem Ζ{C:Cx}{St:Dr}{fuel:Nat}{listed:Array Bool}(hd:V5 cs (eY L M) r)(h:∀ow,WA C St ops Q fuel listed fr (O0 L M ow::r)):WA C St ops Q fuel listed fr cs:=λa w hf hi=>by
 obtain⟨k,h1,h2⟩:=(hi.perm hd.perm).TA;exact h k.ow a w hf (h2.Tf (bs:=[L.bp,L.bt,L.bf,L.bg,L.bm]) (F:=zi L M.SD) (hb:=λ_=>I) (p:=λk'=>dK L M k'/\k'.ow=k.ow) k ⟨h1,I⟩)
theorem wl_unO{C:Cx}{l:List Oper}(hd:V5 cs (O0 L M ow) r)(h:WL C ops Q l fr (eY L M::r)):WL C ops Q l fr cs:=λa w hf hi=>by
 obtain⟨k,h1,h2⟩:=(hi.perm hd.perm).TA;exact h a w hf (h2.Tf (bs:=[L.bp,L.bt,L.bf,L.bg,L.bm]) (F:=zi L M.SD) (hb:=λ_=>I) (p:=dK L M) k h1.1)
abbrev gsO(H:mY)(G:Vy)(ow:Li):List bH:=vV H G false::UP G.s G.X.Ad G.X.cd::UU G.s G.X.Ar G.X.cr::(([Cm H.bu H.L.bm H.bb,O0 H.L G.U.m ow,ww H.bb G.U.t]++lJ H.D H.L.bm G.Y G.d)++[cR (enO H.be G.o)])
theorem gsO_ok{H:mY}{G:Vy}(h:∀c,c∈gsO H G ow->c.ok w):∀c,c∈UY H G->c.ok w:=λc hc=>by
 have hc:c∈[vV H G false,UP G.s G.X.Ad G.X.cd,UU G.s G.X.Ar G.X.cr,Cm H.bu H.L.bm H.bb]++eY H.L G.U.m::(ww H.bb G.U.t::(lJ H.D H.L.bm G.Y G.d++[cR (enO H.be G.o)])):=hc;have h:∀c,c∈[vV H G false,UP G.s G.X.Ad G.X.cd,UU G.s G.X.Ar G.X.cr,Cm H.bu H.L.bm H.bb]++O0 H.L G.U.m ow::(ww H.bb G.U.t::(lJ H.D H.L.bm G.Y G.d++[cR (enO H.be G.o)]))->c.ok w:=h;rcases aK.1 hc with hc|hc
 .exact h c (List.mem_append_left _ hc)
 rcases aI.1 hc with rfl|hc
 .exact memO_ok (h _ (List.mem_append_right _ (List.mem_cons_self ..)))
 exact h c (List.mem_append_right _ (bo _ hc))
theorem AH(L:ez)(M:Uy)(o:Nat)(ho:L.o=o)(ow fs:Li)(hfs:dU ow o 256=fs)(w:World)(hm:(O0 L M ow).ok w):Uz prog 49 [.p L.bp,.i (o:Int)] w [] (λv cs=>∃A c,J fs<=L.n/\v= .slice A (J fs) c/\cs=[sl .i64 3 A (J fs) c fs]):=by
 obtain⟨k,⟨hr,rfl⟩,hk⟩:=R8 hm;subst ho hfs;refine(Dz L.bp k.B k.ow k.pr hr.pl L.o hr.o4 w (hk _ (.head _ _))).mono ?_;rintro v cs ⟨A,c,rfl,rfl⟩;exact⟨A,c,hr.heldAll.1,I,I⟩
theorem DD(H:mY)(G:Vy)(o:Nat)(ho:H.L.o=o)(ow fs:Li)(hfs:dU ow o 256=fs)(w:World)(h0:(vV H G false).ok w)(hm:(O0 H.L G.U.m ow).ok w):Uz prog 48 [.p H.bg] w [] (λv cs=>∃A c,J fs<=H.L.n/\v= .slice A (J fs) c/\cs=[sl .i64 3 A (J fs) c fs]):=by
 have HH:=AH H.L G.U.m o ho ow fs hfs;rw[<-ho]at HH;refine UB func48 ntmps48 ?_;refine eK ?_;refine WB 22 ?_;refine BT ?_;refine py ?_;refine jn ?_;refine Us ?_;refine B7 ?_;refine Ld 2 2 ?_;refine Q5 ?_;refine ZE 5 ?_;refine Ld 6 3 ?_;refine QU ?_;refine fS ?_;refine VF (λw hi=>HH w (bH.old hm hi)) ?_;rintro _ _ ⟨A1,c1,hl,rfl,rfl⟩;refine ZE 9 ?_;refine pI ?_;refine Vd ([slv _ _ _ _ _ _]) ?_;exact⟨A1,c1,hl,I,I⟩
theorem yH(A B C:Oa)(c e cc:Nat)(l:List zf)(SC:Int)(k:Li)(hk:UO k)(evs:List D6)(tr:Bool)(w:World)(h:UJ w 5 A (J l) c (l.flatMap zf.cells))(hl:∀a,a∈l->a.ok w)(hB:Rd w .u8 B (J k) e k)(hE:UJ w 4 C (J evs) cc (evs.flatMap D6.cells))(hel:∀a,a∈evs->a.ok w)(ht:lG w):
  CW prog 9 [.slice A (J l) c,.i SC,.slice B (J k) e,.slice C (J evs) cc,.bool tr] w (.bool true):=by
 have hem:J evs<=maxLen:=aR hE.cap hE.max;simp only[maxLen]at hem;have HI:=Fi A B c e l SC k hk;have hk2:J (k.take 1024)<=1024:=by rw[aU];omega
 have hkb:UO (k.take 1024):=λx hx=>hk x (aX hx)
 have hB2:=kz hB 1024;refine UB func9 ntmps9 ?_;refine eK ?_;refine UW (λw hi=>HI w (h.SS hi) (λa ha=>⟨(hl a ha).v,(hl a ha).at_,(hl a ha).rd.SS hi,(hl a ha).bs⟩) (hB.SS hi)) ?_;rintro _ _ ⟨A1,c1,E,E2,N,⟨hE1,⟨hn1,hn2⟩,hE2⟩,rfl,rfl⟩;have hE1':UO (E.take (N*64)):=(λx hx=>hE1 x (aX hx));have HBO:=My N hn1 O A1 B c1 e (E.take (N*64)) (k.take 1024) hE2 hE1' hk2 hkb tr;refine ZN λb11=>?_
 refine iz ?_;refine dW (cj (vs:=[.slice A1 (J (E.take (N*64))) c1,.slice B (J (k.take 1024)) e,.i (N:Int)]) ir ir ne) (cI Zh I) I (ZA ?_);refine UW (λw hi=>HBO w (kz (hi.rd (Ur (sl .u8 5 A1 (J E) c1 E))) (N*64)) (hB2.SS hi)) ?_;rintro _ _ ⟨H,⟨s,XG,Y,Ug,d,og⟩,R,hBo,rfl,rfl⟩;have ho2:H.L.o=2:=hBo.ho;obtain⟨rfl,rfl,hP⟩:=hBo.pair hn1 O hE2 hE1' hk2 hkb;clear hBo;rw[DH R N _ _ O];refine mU ?_;refine jn ?_;refine Uu ?_;clear HBO HI;obtain⟨M0,hM0⟩:=Uk (Uy.init N (E.take (N*64)));obtain⟨T0,hT0⟩:=Uk (dA);obtain⟨d0,hd0⟩:=Uk (Un.init (k.take 1024));rw[hM0,hT0,hd0]at hP|-;refine dg 32 1 (dg 32 1 (iH (row b11 [.slice A1 (J (E.take (N*64))) c1,.slice B (J (k.take 1024)) e,.i (N:Int)] 27::(UY H ⟨St.new,XG,Y,Ug,d0,og⟩++WJ R N St.new Yk g0D (⟨M0,T0⟩:Uo) d0)) Zj (Ut ?_)));refine xF (λq:(Nat×Uo)×(Vy×eN×fv)=>[(3,.slice C (J evs) cc),(11,.p b11),(12,.p H.bg),(13,.p R.bg),(14,.p H.L.bp),(15,.i (q.1.1:Int))]) (λq=>row b11 [.slice A1 (J (E.take (N*64))) c1,.slice B (J (k.take 1024)) e,.i (N:Int)] 27::(UY H q.2.1++WJ R N q.2.1.s q.2.2.1 q.2.2.2 q.1.2 q.2.1.d)) (λq=>q.1.1<=25/\B2 H N (320*q.1.1) q.2.1 q.1.2) (λq=>25 - q.1.1) (⟨⟨0,(⟨M0,T0⟩:Uo)⟩,⟨⟨St.new,XG,Y,Ug,d0,og⟩,Yk,g0D⟩⟩) ?_ ?_ ?_ ?_
 .exact⟨ay _,hP⟩
 .exact XK
 .exact aO _
 rintro⟨⟨j,U⟩,⟨⟨s,X,Y,Ug,d,og⟩,X2,Z2⟩⟩ ⟨hj,hP⟩;dsimp only at hj hP|-;refine iR ?_;refine ZW ?_ ?_<;>intro hc6
 .have hc6':(decide ((j:Int)<(J evs:Int))&&decide ((j:Int)<25))=true:=hc6;simp only[aC,ah]at hc6';have hkl:j<J evs:=O;obtain⟨ad,rfl⟩:=hE.some_ O;obtain⟨a,ha⟩:∃a,evs[j]? =some a:=⟨_,aj hkl⟩;have hao:=hel a (az ha);have H1:=PJ H R N hn1 O (320*j) O ⟨s,X,Y,Ug,d,og⟩ U hP X2 Z2 a hao.bs hao.at_;dsimp only at H1;obtain⟨⟨s9,U9,d9⟩,hq⟩:=Uk (sq N a (s,U,d));rw[hq]at H1;dsimp only at H1;refine Uu ?_;refine bN (UK [6]) Zk (y5 ?_);refine ZE 3 ?_;refine UF 4 I (cW (j:=j) I ir (Zv I) (Zv I) Uq Uq) ?_;refine US 5 I (cj (vs:=a.cells) ir ir ne) (fP hE (λi v hi=>fK D6.S6 (i:=i) ha hi)) ?_;refine cQ 6 Zk (rH (UY H ⟨s,X,Y,Ug,d,og⟩++WJ R N s X2 Z2 U d) (λw hi hin=>H1 w hin (λw' hk=>UJ.S4 hao.rd hi Zi hk) (λw' hk=>UJ.S4 ht hi Zi hk)) ?_);rintro _ _ ⟨⟨s1,X1,Y1,U1,d1,o1⟩,X3,Z3,⟨hP1,e1,e2⟩,rfl,rfl⟩;dsimp only at e1 e2 hP1|-;subst e1 e2;obtain⟨v1,v2⟩:=hP1.view;have ho1:=hP1.g.o;have hda:=hP1.g.m.m.dl;have hdk:=hP1.g.g.dv.wf.SV;have hsr1:=hP1.ok.g.right;dsimp only at ho1 hsr1 hdk;obtain⟨hd16,hr16, -⟩:=St.fits hsr1;refine Ζ (L:=H.L) (M:=U1.m) Zd (λow=>?_);obtain⟨fs,hfs⟩:=Uk (dU ow 2 256);refine ZE 7 ?_;refine ZE 8 ?_;refine ZF 9 ?_;refine ZF 11 ?_;refine mh ?_;refine zu I I (bU I I) I (dQ I (λ_ _=>I) (λw hi=>Fs H ⟨s1,X1,Y1,U1,d1,o1⟩ (by rw[hP1.hn];exact hP1.ok) (by show J d1.out<=_;omega) w (gsO_ok (ow:=ow) (hi.okS Zi)))) ZJ rfl ?_;rintro _ _ ⟨_,⟨Y6,rfl,rfl⟩,rfl⟩;rw[v1];refine cQ 12 Zk (zu I I (bU I I) I (dQ I (λ_ _=>I) (λw hi=>PY R N s1 X3 U9.t Z3 d1 U9.m.data hda hdk w (hi.get Zh) (hi.get Zh) (hi.get Zh) (hi.get Zh))) ZJ I ?_);refine Vb ?_;refine cQ 13 Zk (zu I I (bU I I) I (dQ I (λ_ _=>I) (λw hi=>Po (XH s1 U9 d1) (XH s1 U9 d1) Y6 (dvY R N X3 Z3) v2 v2 w (vw_rd (hi.okS (Zic (Θ (XH s1 U9 d1) Y6))) M3 MZ) ⟨hi.TM (Ur (UP s1 X3.Ad X3.cd)) (Ur (UU s1 X3.Ar X3.cr)) M3 MZ,by show Rd w .u8 _ (J U9.m.data) _ _;rw[hda];exact hi.rd (Ur (sl .u8 5 (sA R.K.bB) (N*64) (N*64) U9.m.data)),by show Rd w .u8 Z3.Ao (J d1.out) Z3.co d1.out;exact hi.rd (Ur (sl .u8 5 Z3.Ao (J d1.out) Z3.co d1.out)),uq (hi.get (Ur (V6 Z3.Ai (J d1.inp) Z3.ci (ints .u8 d1.inp)))),by show Rd w .u8 _ (J d1.SV) _ _;rw[hdk];exact hi.rd (Ur (FO R.bd d1.SV))⟩)) ZJ I ?_);rintro _ _ ⟨_,⟨⟨r,rfl,hr⟩,rfl⟩,rfl⟩;obtain rfl:r=true:=hr.2 I;refine ZF 14 ?_;refine ZE 15 ?_;refine ZE 16 ?_;refine ZF 17 ?_;refine ZF 19 ?_;refine ZF 20 ?_;refine τ 21 0 ?_;refine Yq 22 I (bU I I) (cj (vs:=s1.cells (.slice X3.Ad (J s1.d) X3.cd) (.slice X3.Ar (J s1.r) X3.cr)) ir ir (cU I)) (cI Zh I) ?_;refine cQ 18 Zk (zu I I (bU I I) I (dQ I (λ_ _=>I) (λw hi=>u5 H ⟨s1,X1,Y1,U1,d1,o1⟩ w (hi.get Zh) (hi.TM (Ur (UP s1 X1.Ad X1.cd)) (Ur (UU s1 X1.Ar X1.cr)) M3 MZ))) ZJ I ?_);rintro _ _ ⟨_,⟨A3,c3,A4,c4,rfl,rfl⟩,rfl⟩;refine cQ 23 Zk (zu I I (bU I I) I (dQ I (λ_ _=>I) (λw hi=>AV s1 s1 A3 A4 X3.Ad X3.Ar c3 c4 X3.cd X3.cr w (hi.TM (Ur (UP s1 A3 c3)) (Ur (UU s1 A4 c4)) M3 MZ) (hi.TM (Ur (UP s1 X3.Ad X3.cd)) (Ur (UU s1 X3.Ar X3.cr)) M3 MZ))) ZJ I ?_);refine Vb ?_;rw[St.TV];refine ZF 24 ?_;refine ZE 25 ?_;refine ZE 26 ?_;refine ZF 27 ?_;refine τ 30 2 ?_;refine Yq 31 I (bU I I) (bL ir (cU I)) (cO Zh I) ?_;refine cQ 28 Zk (Wq374 ?_);rintro _ _ ⟨_,⟨A7,c7,hfl,rfl,rfl⟩,rfl⟩;rw[hP1.hn]at hfl;refine ZF 29 ?_;refine Zy6 32 I (bU I I) (XZ (cU I) (cU I) (ao (show¬((N:Int)<(J fs:Int)) by omega))) ?_;refine ZE 33 ?_;refine ZE 34 ?_;refine ZF 35 ?_;refine ZF 38 ?_;refine cQ 36 Zk (zu I I (bU I I) I (dQ I (λ_ _=>I) (λw hi=>AH H.L U1.m 2 ho2 ow fs hfs w (hi.get (Ur (O0 H.L U1.m ow))))) ZJ I ?_);rintro _ _ ⟨_,⟨A8,c8, -,rfl,rfl⟩,rfl⟩;refine ZF 37 ?_;refine cQ 39 Zk (Wq374 ?_);rintro _ _ ⟨_,⟨A9,c9, -,rfl,rfl⟩,rfl⟩;refine ZF 40 ?_;refine Zy6 41 I (bU I I) (xB (cU I) (cU I) (bne_self_eq_false _)) ?_;refine ZE 42 ?_;refine fe ?_;refine Zt (cG I (I) ?_);refine Ut ?_;refine wl_unO (L:=H.L) (M:=U1.m) (ow:=ow) Zd (ZA ?_);refine WR ?_;refine UN ((⟨⟨j+1,U9⟩,⟨⟨s1,X1,Y1,U1,d1,o1⟩,X3,Z3⟩⟩:(Nat×Uo)×(Vy×eN×fv))) ⟨⟨show j+1<=25 by omega,hP1.le (by dsimp only;omega)⟩,show 25 - (j+1)<25 - j by omega⟩
 refine UG ?_;refine UD (λw hi=>ru H ⟨s,X,Y,Ug,d,og⟩ false w (hi.get Zh)) ?_;refine py ?_;refine kt (bP I I) I (dQ I (λ_ _=>I) (λw hi=>wS w (ht.old hi))) I ?_;refine Vb ?_;exact vG
open Go
theorem pi{W:World}(h:laidMetH prog Rows.guestPlaysRow.laid W):lG W:=
 wR (t:=344) (e:=5) (Th:=Gr) h (MakeChecks.laidMetH_plain _ _ _ lK) rfl (g:=0) lK lK lK lK lK rfl gI
theorem yS(os:Os)(args:Array Value):laidMetH prog Rows.guestPlaysRow.laid ((World.doorLaid prog 400 os).forCall (λ_ _=>0) ⟨#[],args,[]⟩).memory:=
 laidMetH_of_parts3 (fuel:=8) (laidMet_of_run' 8 lK lK) lK lK
set_option maxRecDepth 100000 in
theorem ro(os:Os)(started:os.Started)(H:Type)(enc:TypeId×Value->H):
  ReturnsInHanded {} checked os 9 .any (λw args=>(Rows.guestPlaysSpec.pre enc prog f9 [] false w args/\laidMetH prog Rows.guestPlaysRow.laid w)/\sizedMet enc prog f9 (OpenSpec.ofChange Rows.guestPlaysSpec) false w args) (Rows.guestPlaysSpec.post enc prog f9 false true false false):=
 zX (C:=checked) (ts:=[71,3,22,108,4]) own0 started lK func9
  (ChangeSpec.witness_shaped (enc:=enc) (C:=checked) (os:=os) (X:=λw _=>laidMetH prog Rows.guestPlaysRow.laid w) false (World.doorLaid prog 400 os) #[.slice none 0 0,.i 0,.slice none 0 0,.slice none 0 0,.bool false] 8 I (World.shaped_of_RefB lK lK) lK lK lK (yS os _))
  rfl rfl rfl rfl (λds h=>by match ds,h with|[_,_,_,_,_],_=>rfl) Yh lK (λW vs h hx=>by
   have ht:=pi hx;obtain⟨v0,_,rfl,a0,v1,_,rfl,a1,v2,_,rfl,a2,v3,_,rfl,a3,v4,_,rfl,a4,rfl⟩:=h;obtain⟨A,c,l,rfl,hl,hr⟩:=AJ a0;obtain⟨n1,rfl,w1⟩:=a1.int (k:= .i64) I;obtain⟨B,cb,b,rfl,hB,hb⟩:=G6 a2;obtain⟨E,ce,es,rfl,hE,he⟩:=G5 a3;obtain⟨e4,rfl⟩:=a4.bool I;exact FS (yH A B E c cb ce l n1 b hb es e4 W hl hr hB hE he ht))
set_option maxHeartbeats 0 in
theorem uV:Rows.GuestPlaysSaid:=
 OpenClaim.holds_of_wide 9 f9 rfl rfl rfl rfl rfl rfl rfl ⟨rfl,rfl,rfl,rfl,rfl⟩ rfl rfl rfl rfl rfl sG func9 sH uW uU
  (λos started H enc _=>ro os started H enc)
set_option maxHeartbeats 0 in
theorem guestPlays_holds:Rows.GuestPlaysCardSaid:=
 Claim7.holds_tied_plain_at .later [] [.data] true Rows.guestPlaysCard.stood.harness false
  uV (λ_ h=>by cases h) lK (λ_ h=>by cases h) guestPlays_row_tie rfl ⟨rfl,rfl⟩ lK rfl
  (λf fn hf hfn=>by
   obtain rfl:f=9:=aG ((show prog.funcNamed "innkeeper/innkeeperlaw25.GuestPlays" =some 9 by as_aux_lemma=>kernel_rfl).symm.trans hf)|>.symm
   obtain rfl:fn=f9:=(aG (func9.symm.trans hfn)).symm;exact⟨by as_aux_lemma=>kernel_rfl,λj t ht=>by
    have hm:t∈f9.params.toList:=by simpa using Array.mem_of_getElem? ht
    have hall:(f9.params.toList.all λu=> !prog.wantsStandIn u)=true:=by as_aux_lemma=>kernel_rfl
    exact(show prog.wantsStandIn t=false by simpa using List.all_eq_true.1 hall t hm)⟩)
  lK
end Go.Proofs.YtepfimeihngjoaaGreatDoor
