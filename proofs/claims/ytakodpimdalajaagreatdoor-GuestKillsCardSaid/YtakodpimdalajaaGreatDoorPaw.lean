/- For every input the law GuestRuns answers true and leaves every argument as it was; the table of math/bits is what the program's text lays (the card ties it); no other condition. -/
import Derived.Test.YtakodpimdalajaaGreatDoorPaa
import Derived.Test.YtakodpimdalajaaGreatDoorPab
import Derived.Test.YtakodpimdalajaaGreatDoorPac
import Derived.Test.YtakodpimdalajaaGreatDoorPav
import Derived.Test.YtakodpimdalajaaGreatDoorRows
import Derived.JoinedOf
import Derived.Test.YtakodpimdalajaaGreatDoorCards
import Derived.Test.YtakodpimdalajaaGreatDoorTie
import Derived.SevenTiedAt
set_option linter.unusedSimpArgs false
set_option linter.unusedVariables false
set_option maxRecDepth 100000
set_option maxHeartbeats 4000000
namespace Go.Ink
theorem HJ{m:Int}{cc:Nat}{h h2 sm:Bool}(hz:(decide (m<1)||h)=true→cc=0∧sm=true)(hnz:(decide (m<1)||h)=false→(h2||decide (m≤(cc:Int)))=true∧(cc:Int)<m+8):
  (false||(decide (m<1)||h)&&((cc:Int) !=0|| !sm)||decide (0<m)&&decide (m+8≤(cc:Int))||decide (0<m)&& !h&& !h2&&decide ((cc:Int)<m))=false:=by
 by_cases hm:m<1
 ·obtain⟨rfl,rfl⟩:=hz (by rw[ay hm];rfl);rw[az (show¬0<m by omega)];simp
 rw[az hm]at hz hnz⊢;rw[ay (show 0<m by omega)];cases h with
 |true=>
  obtain⟨rfl,rfl⟩:=hz rfl;simp;omega
 |false=>
  obtain⟨h1,h3⟩:=hnz rfl;cases h2 with
  |true=>simp;omega
  |false=>
   rw[Bool.false_or,ak]at h1;simp;omega
end Go.Ink
namespace Go.Proofs.YtakodpimdalajaaGreatDoor
open Go.RowKit Go.Ink Go.Proofs.Tryz
attribute [local irreducible] OpY bP
theorem Fw(n:Nat)(hn0:1≤n)(hn:n≤64)(A B:Option Addr)(c e:Nat)(l k:List Int)(hll:l.length≤n*64)(hlb:u8s l)(hkl:k.length≤1024)(hkb:u8s k)(tr:Bool)(w:World)(hA:Rd w .u8 A l.length c l)(hB:Rd w .u8 B k.length e k):
  Ctr prog 20 [imgV A c l B e k n,.bool tr] w [] (fun v cs=>∃H G R,Born H.L.bp 2 n (List.replicate 16384 0) (List.replicate 256 (-1)) (List.replicate 4 (-1)) l k tr H G∧v= .tuple #[.pointer (some ⟨H.bg,0,none⟩),.pointer (some ⟨R.bg,0,none⟩),.pointer (some ⟨H.L.bp,0,none⟩)]∧cs=gsF H G++docF R n l k):=by
 have HF:=EQ;have HN:=fun bp w hi hA hB=>vk bp 2 n (List.replicate 16384 0) aJ Wq5 hn0 hn A B c e l k hll hlb hkl hkb tr w hi hA hB
 have HD:=yc A B c e n l k hn hll hkl;obtain⟨W0,hW0⟩:=Zgn (List.replicate 256 (-1:Int));obtain⟨B0,hB0⟩:=Zgn (List.replicate 16384 (0:Int));obtain⟨P0,hP0⟩:=Zgn (List.replicate 4 (-1:Int));obtain⟨d,hd⟩:=Zgn (Dev.init k);obtain⟨data,hda⟩:=Zgn (ig n l);obtain⟨tu,htu⟩:=Zgn (List.replicate n false);obtain⟨T0,hTT⟩:=Zgn (eE);unfold docF;rw[hB0,hW0,hP0]at HF HN⊢;rw[hd,hda,htu,hTT]at HD⊢;refine bL func20 rfl ntmps20 rfl (Inv.start w) ?_;refine Z_2 ?_;refine ZO fun b2=>?_;refine Z_7 ?_;refine ZS (fun w hi=>HF w) ?_;rintro _ _ ⟨_,⟨bp,rfl,rfl⟩,rfl⟩;refine dS ?_;refine gx ?_;refine Z_5 ?_;refine dL (cn (vs:=[.slice A l.length c,.slice B k.length e,.int .i64 (n:Int)]) Zrf Zrf Zv0) (cI Zh rfl) rfl ?_;refine ZA ?_;refine ZcL ([dj bp B0 W0 P0]) (fun w hi hin=>HN bp w hin (fun w' hk=>RdV.JG hA hi Zi hk) (fun w' hk=>RdV.JG hB hi Zi hk)) ?_;rintro _ _ ⟨_,⟨H,G,hBo,rfl,rfl⟩,rfl⟩;obtain rfl:H.L.bp=bp:=hBo.hbp;refine gL ?_;refine gx ?_;refine Z_5 ?_;refine dL (cn (vs:=[.slice A l.length c,.slice B k.length e,.int .i64 (n:Int)]) Zrf Zrf Zv0) (cI Zh rfl) rfl ?_;refine ZS (fun w hi=>HD w (hA.Jz hi) (hB.Jz hi)) ?_;rintro _ _ ⟨_,⟨bg,K,bx,by_,bd,rfl,rfl⟩,rfl⟩;refine Z_7 ?_;refine bN (gsF H G++(row bg (St.new.cells (.slice none 0 0) (.slice none 0 0)++[.pointer (some ⟨bx,0,none⟩),.pointer (some ⟨by_,0,none⟩)]) 144::(rf K n data tu++[lQ bx K.bm T0]++wi by_ K.bm bd ⟨none,0,none,0⟩ d))) Zj ?_;refine sK (cs':=(gsF H G++(row bg (St.new.cells (.slice none 0 0) (.slice none 0 0)++[.pointer (some ⟨bx,0,none⟩),.pointer (some ⟨by_,0,none⟩)]) 144::(rf K n data tu++[lQ bx K.bm T0]++wi by_ K.bm bd ⟨none,0,none,0⟩ d)))) (.inl rfl) Zu rfl rfl rfl rfl ?_;exact⟨H,G,⟨bg,K,bx,by_,bd⟩,hBo,rfl,rfl⟩
theorem tO(w:World)(ht:lx w):Ctr prog 25 [] w [] (fun v cs=>v= .bool true∧cs=[]):=by
 have HF:=EQ;have hb:u8s [1,65,2,16,128,0,0,49,69]:=by rw[←Ay];exact xp _ _
 have HC:=fun A c w h=>Fo A c codeG (show(4:Nat)≤1000 by decide) w h
 rw[Ay]at HC;have HN:=fun bp A c w hi hA hB=>vk bp 0 2 (List.replicate 16384 0) aJ Wq5 Wq5 Wq5 A none c 0 [1,65,2,16,128,0,0,49,69] [] Wq5 hb Wq5 (fun x hx=>by cases hx) true w hi hA hB
 have hK:=BS;obtain⟨W0,hW0⟩:=Zgn (List.replicate 256 (-1:Int));obtain⟨B0,hB0⟩:=Zgn (List.replicate 16384 (0:Int));obtain⟨P0,hP0⟩:=Zgn (List.replicate 4 (-1:Int));obtain⟨l0,hl0⟩:∃l:List Int,[1,65,2,16,128,0,0,49,69]=l:=⟨_,rfl⟩;rw[hB0,hW0]at HF HN;rw[hP0]at HF HN;rw[hl0]at HC HN hK;have hl9:l0.length=9:=by rw[←hl0];rfl
 obtain⟨U0,hU⟩:=Zgn ((⟨Mem.load 2 l0,eE⟩:Mmu));obtain⟨d0,hd⟩:=Zgn (Dev.init []);have ho:d0.out.length≤0:=by rw[←hd];exact aN _
 rw[hU,hd]at hK;obtain⟨⟨s9,U9,d9⟩,hR⟩:=Zgn (ib 2 9 St.new U0 d0);rw[hR]at hK;simp only[I1,aB,beq_iff_eq]at hK;obtain⟨⟨⟨k1,k2⟩,k3⟩,k4⟩:=hK;have HG:∀(H:xG) (G:Gst),Born H.L.bp 0 2 B0 W0 P0 l0 [] true H G→H.L.n=2∧G.ok H.L.n∧G.d.out.length≤0∧ib H.L.n 9 G.s G.U G.d=(s9,U9,d9)∧G.s.count=0:=fun H G h=>⟨h.hn,by rw[h.hn];exact h.ok,by rw[h.hd,hd];exact ho,by rw[h.hn,h.hs,h.hu,h.hd,hU,hd];exact hR,by rw[h.hs];rfl⟩
 refine bL func25 rfl ntmps25 rfl (Inv.start w) ?_;refine Z_7 ?_;refine ZS (fun w hi=>HF w) ?_;rintro _ _ ⟨_,⟨bp,rfl,rfl⟩,rfl⟩;refine dS ?_;refine gx ?_;refine Z_8 ?_;refine fb (da rfl rfl Zrf Zrf rfl rfl rfl) rfl ?_;rintro _ _ ⟨b13,rfl,rfl⟩;refine ZS (fun w hi=>HC (some ⟨b13,0,none⟩) 4 w (hi.rd (show Has _ (slv 24 2 (some ⟨b13,0,none⟩) 4 4 (codeG.flatMap iL))from Zh))) ?_;rintro _ _ ⟨_,⟨A1,c1,rfl,rfl⟩,rfl⟩;refine Z_8 ?_;refine ZcL ([dj bp B0 W0 P0]) (fun w hi hin=>HN bp A1 c1 w hin (fun w' hk=>hi.J8 Zi (show Has _ (sl .u8 5 A1 l0.length c1 l0)from Zh) hk) (fun w' hk=>o7 w' .u8)) ?_;rintro _ _ ⟨_,⟨H,G,hBo,rfl,rfl⟩,rfl⟩;obtain rfl:H.L.bp=bp:=hBo.hbp;obtain⟨hn2,hG,hoG,hrG,hcG⟩:=HG H G hBo;have HR:=fun w hi ht=>yG H G Wq1 hG 9 Wq5 Wq5 (by rw[show(9:Int).toNat=9 from rfl];omega) w hi ht
 rw[hrG,hcG]at HR;dsimp only at HR;rw[k2]at HR;refine AI ?_;refine gx ?_;refine Z_5 ?_;refine ZcL (gsF H G) (fun w hi hin=>HR w hin (fun w' hk=>RdV.JG ht hi Zi hk)) ?_;rintro _ _ ⟨_,⟨⟨s2,X2,Y2,U2,d2,o2⟩,⟨hG2,hr2, -⟩,rfl,rfl⟩,rfl⟩;simp only[aW]at hr2;obtain⟨rfl,rfl,rfl⟩:=hr2;have hg2:=hG2.g;dsimp only at hg2;obtain⟨he16,hf16, -⟩:=St.fits hg2.right;refine Z_6 ?_;refine Zy (CA (Zv rfl) (Zv rfl) (show _=true from rfl)) ?_;refine Z_8 ?_;refine iA (bZ rfl rfl) rfl (eW rfl (fun _ _=>rfl) (fun w hi=>xm H.D.bcn Y2.Ao Y2.co d2.out Y2.Ai d2.inp.length Y2.ci (by rw[k3];decide) w (hi.get Zh) (hi.get Zh))) rfl ?_;rintro _ _ ⟨_,⟨A5,c5,rfl,rfl⟩,rfl⟩;refine fq (fun w hi=>lS (hi.rd (show Has _ (b8 A5 c5 d2.out)from Zh))) (fun hrd41=>?_);refine hH (bZ rfl rfl) (lD rfl rfl rfl (dH rfl) hrd41) (fun w hi=>RdV.JQ (hi.rd (show Has _ (b8 A5 c5 d2.out)from Zh))) rfl ?_;refine Zyy rfl rfl (qE rfl (dH rfl) (Zv rfl) (show _=true from by rw[k3];rfl)) ?_;refine Z_3 ?_;refine iA (bZ rfl rfl) rfl (eW rfl (fun _ _=>rfl) (fun w hi=>oD H ⟨s2,X2,Y2,U2,d2,o2⟩ w (hi.get Zh) (hi.Kp (show Has _ (slD s2 X2.Ad X2.cd)from Zh) (show Has _ (slR s2 X2.Ar X2.cr)from Zh) (by show s2.d.length*4≤_;omega) (by show s2.r.length*4≤_;omega)))) rfl ?_;rintro _ _ ⟨_,⟨A3,c3,A4,c4,rfl,rfl⟩,rfl⟩;refine Zyy rfl rfl (FX rfl rfl Zrf (dH rfl) (congrArg (fun b=>some (Value.bool b)) k1)) ?_;refine Z_9 ?_;refine iA (bZ rfl rfl) rfl (eW rfl (fun _ _=>rfl) (fun w hi=>xj H.D.bcn Y2.Ao d2.out.length Y2.co Y2.Ai d2.inp.length Y2.ci w (hi.get Zh))) rfl ?_;rintro _ _ ⟨_,⟨rfl,rfl⟩,rfl⟩;refine Zyy rfl rfl (CA (dH rfl) (Zv rfl) (show _=true from by rw[k4];rfl)) ?_;refine Z_6 ?_;refine iA (bZ rfl rfl) rfl (eW rfl (fun _ _=>rfl) (fun w hi=>kU H.L U2.m w (hi.get (show Has _ (ek H.L U2.m)from Zh)))) rfl ?_;rintro _ _ ⟨_,⟨rfl,rfl⟩,rfl⟩;refine Zyy rfl rfl (CA (dH rfl) (Zv rfl) (show _=true from by rw[hn2];rfl)) ?_;refine Z_5 ?_;refine Zra ?_;exact df
theorem wW(A A2:Option Addr)(c c2:Nat)(l:List vA)(Jl:Int)(ns:List Int)(tr:Bool)(w:World)(h:RdV w 5 A l.length c (l.flatMap vA.cells))(hl:∀a,a∈l→a.ok w)(h2:Rd w .i64 A2 ns.length c2 ns)(ht:lx w):
  Ctr prog 6 [.slice A l.length c,.int .i64 Jl,.slice A2 ns.length c2,.bool tr] w [] (fun v cs=>v= .bool true∧cs=[]):=by
 have HI:=fun w h hl=>zN A none c 0 l Jl [] (fun x hx=>by cases hx) w h hl (o7 w .u8)
 refine bL func6 rfl ntmps6 rfl (Inv.start w) ?_;refine Z_9 ?_;refine ZS (fun w hi=>HI w (h.Jz hi) (fun a ha=>⟨(hl a ha).v,(hl a ha).at_,(hl a ha).rd.Jz hi,(hl a ha).bs⟩)) ?_;rintro _ _ ⟨_,⟨A1,c1,E,E2,N,⟨hE1,⟨hn1,hn2⟩,hE2⟩,rfl,rfl⟩,rfl⟩;have hE1':u8s (E.take (N*64)):=(fun x hx=>hE1 x (List.mem_of_mem_take hx));have HBo:=fun w hA=>Fw N hn1 Wq1 A1 none c1 0 (E.take (N*64)) [] hE2 hE1' Wq5 (fun x hx=>by cases hx) tr w hA (o7 w .u8)
 refine ZA ?_;refine ZS (fun w hi=>HBo w (lR (hi.rd (show Has _ (sl .u8 5 A1 E.length c1 E)from Zh)) (N*64))) ?_;rintro _ _ ⟨_,⟨H,G,R,hBo,rfl,rfl⟩,rfl⟩;have hn:H.L.n=N:=hBo.hn;have hG0:G.ok N:=hBo.ok;have ho0:G.d.out.length≤0:=(by rw[hBo.hd];exact aN _);clear hBo;refine p5 ?_;refine gx ?_;refine Z_5 ?_;refine jF (gsF H G) Zj ?_;refine Z_4 ?_;refine cw (fun q:Nat×Gst=>[(2,.slice A2 ns.length c2),(9,.pointer (some ⟨H.bg,0,none⟩)),(12,.int .i64 (q.1:Int))]) (fun q=>gsF H q.2) (fun q=>q.2.ok N∧q.1≤15∧q.2.d.out.length≤600*q.1) (fun q=>15 - q.1) ((⟨0,G⟩:Nat×Gst)) ?_ ?_ ?_ ?_
 ·exact⟨hG0,au _,ho0⟩
 ·exact Zwk
 ·exact Zu
 rintro⟨k,G⟩ ⟨hG,hk,ho⟩;dsimp only at hG hk ho⊢;have hg:=hG.g;obtain⟨hd16,hr16, -⟩:=St.fits hg.right;refine jA ?_;refine ZW ?_ ?_<;>intro hc5
 ·have hc5':k<ns.length∧k<15:=(by simp only[aB,ak]at hc5;omega);obtain⟨hkl,hk15⟩:=hc5';obtain⟨ad,rfl⟩:=h2.some_ Wq1;have hx:=ai hkl;obtain⟨x,hxx⟩:=Zgn (ns[k]'hkl);rw[hxx]at hx;obtain⟨m,hm⟩:=Zgn (jG x (-2) 70);have hmr:=mD x (-2) 70 Wq5;rw[hm]at hmr;have HW:=fun w=>hm▸AT x (-2) 70 w Wq5 Wq5 Wq5
  have HR:=yG H G Wq1 (hn.symm▸hG) m Wq1 Wq1 Wq1;have hro:=Dp m hg;obtain⟨cc,hcw,hcc,hz,hnz⟩:=Bq (m:=m) Wq1 hg;rw[hn]at HR;obtain⟨⟨s3,U3,d3⟩,hq3⟩:=Zgn (ib N m G.s G.U G.d);rw[hq3]at HR hcw hz hnz hro;dsimp only at HR hcw hro;rw[hcw,show IntKind.i64.wrap (cc:Int)=(cc:Int)from IntWalk.i64_in _ ⟨by omega,by omega⟩]at HR;refine Z_8 ?_;refine Zy (cU (j:=k) rfl Zrf (Zv rfl) (Zv rfl) Wq4 Wq4) ?_;refine dL (bO Zrf Zv0) (eH h2 (cQ hx)) rfl ?_;refine ZSe (fun w hi=>HW w) ?_;refine Z_6 ?_;refine ZS (fun w hi=>oD H G w (hi.get Zh) (hi.Kp (show Has _ (slD G.s G.X.Ad G.X.cd)from Zh) (show Has _ (slR G.s G.X.Ar G.X.cr)from Zh) Wq1 Wq1)) ?_;rintro _ _ ⟨_,⟨A3,c3,A4,c4,rfl,rfl⟩,rfl⟩;refine ZN fun b14=>?_
  refine ZM ?_;refine Z_6 ?_;refine ZcL (gsF H G) (fun w hi hin=>HR w hin (fun w' hk=>RdV.JG ht hi Zi hk)) ?_;rintro _ _ ⟨_,⟨G2,⟨hG2,hr2, -⟩,rfl,rfl⟩,rfl⟩;obtain⟨s2,X2,Y2,U2,d2,o2⟩:=G2;simp only[aW]at hr2;obtain⟨rfl,rfl,rfl⟩:=hr2;have hg2:=hG2.g;dsimp only at hg2;obtain⟨he16,hf16, -⟩:=St.fits hg2.right;refine Z_6 ?_;refine ZS (fun w hi=>oD H ⟨s2,X2,Y2,U2,d2,o2⟩ w (hi.get Zh) (hi.Kp (show Has _ (slD s2 X2.Ad X2.cd)from Zh) (show Has _ (slR s2 X2.Ar X2.cr)from Zh) (by show s2.d.length*4≤_;omega) (by show s2.r.length*4≤_;omega))) ?_;rintro _ _ ⟨_,⟨A5,c5,A6,c6,rfl,rfl⟩,rfl⟩;refine ZN fun b16=>?_
  refine ZM ?_;refine Z_5 ?_;refine Zy (bW rfl rfl (Zv rfl) (show IntKind.u64.wrap (cc:Int)=(cc:Int)from u64_wrap_id _ Wq1 Wq1)) ?_;refine Z_4 ?_;refine Zy (dY Zv0 Zv0 hcw) ?_;refine Zy (y_neq (Zv rfl) (Zv rfl) (show((cc:Int) !=(cc:Int))=false from by simp)) ?_;refine fF ?_;refine hH (dU rfl rfl) (cn (vs:=s2.cells (.slice A5 s2.d.length c5) (.slice A6 s2.r.length c6)) Zrf Zrf Zv0) (cI Zh rfl) rfl ?_;refine hH (dU rfl rfl) (cn (vs:=G.s.cells (.slice A3 G.s.d.length c3) (.slice A4 G.s.r.length c4)) Zrf Zrf Zv0) (cI Zh rfl) rfl ?_;refine dE (dU rfl rfl) (.cons (dH rfl) (.cons (dH rfl) .nil)) (fun _ _=>rfl) (fun hg w hi=>wL s2 G.s A5 A6 A3 A4 c5 c6 c3 c4 w (hi.Kp (show Has _ (slD s2 A5 c5)from Zh) (show Has _ (slR s2 A6 c6)from Zh) Wq1 Wq1) (hi.Kp (show Has _ (slD G.s A3 c3)from Zh) (show Has _ (slR G.s A4 c4)from Zh) Wq1 Wq1)) rfl ?_;refine dS ?_;refine hH (dU rfl rfl) (cX (dH rfl) Zv0 Zl) (fun _ _=>trivial) rfl ?_;refine lw ?_;refine Z_4 ?_;refine dw rfl ((HJ (h2:=s2.halted) (sm:=s2.Ko G.s) (fun q=>⟨(hz q).1,by have e:=congrArg (fun z:St×Mmu×Dev=>z.1) (hz q).2;dsimp only at e;rw[e];exact St.Kr _⟩) hnz)) ?_;refine Z_5 ?_;refine Wq8 ?_;refine bY ((⟨k+1,⟨s2,X2,Y2,U2,d2,o2⟩⟩:Nat×Gst)) ?_ ?_ ?_
  ·exact⟨⟨hn▸hG2,show k+1≤15 by omega,show d2.out.length≤600*(k+1) by omega⟩,show 15 - (k+1)<15 - k by omega⟩
  ·exact Zwk
  exact Zj
 refine Z_7 ?_;refine ZSe (fun w hi=>tO w (ht.old hi)) ?_;refine Z_4 ?_;refine Zra ?_;exact df
open Go
set_option maxRecDepth 100000 in
set_option maxHeartbeats 0 in
theorem rQ:joinedFacts checked.prog 6 f6 Rows.guestRunsSpec Rows.guestRunsRow=true:=by
 unfold joinedFacts
 repeat refine andI ?_ kw
 as_aux_lemma=>kernel_rfl
set_option maxHeartbeats 0 in
theorem sQ:f6.isInstance checked.prog Rows.guestRunsRow.origin Rows.guestRunsRow.targs:=of_decide_eq_true (by kernel_rfl)
set_option maxHeartbeats 0 in
theorem sO:f6.isWrapper checked.prog Rows.guestRunsRow.wrapper Rows.guestRunsRow.mainSum:=of_decide_eq_true (by kernel_rfl)
set_option maxHeartbeats 0 in
theorem rP:checked.prog.funcNamed Rows.guestRunsRow.func=some 6:=by kernel_rfl
theorem m6{W:World}(h:laidMetH prog Rows.guestRunsRow.laid W):lx W:=
 tN (t:=270) (e:=5) (JR:=Bf) h (MakeChecks.laidMetH_plain _ _ _ kw) rfl (g:=0) kw kw kw kw kw rfl g9
theorem vq(os:Os)(args:Array Value):laidMetH prog Rows.guestRunsRow.laid ((World.doorLaid prog 400 os).forCall (fun _ _=>0) ⟨#[],args,[]⟩).memory:=
 laidMetH_of_parts3 (fuel:=8) (laidMet_of_run' 8 kw kw) kw kw
set_option maxRecDepth 100000 in
theorem qe(os:Os)(started:os.Started)(H:Type)(enc:TypeId×Value→H):
  ReturnsInHanded {} checked os 6 .any (fun w args=>(Rows.guestRunsSpec.pre enc prog f6 [] false w args∧laidMetH prog Rows.guestRunsRow.laid w)∧sizedMet enc prog f6 (OpenSpec.ofChange Rows.guestRunsSpec) false w args) (Rows.guestRunsSpec.post enc prog f6 false true false false):=
 wc (C:=checked) (ts:=[65,3,66,4]) own0 started kw func6
  (ChangeSpec.witness_shaped (enc:=enc) (C:=checked) (os:=os) (X:=fun w _=>laidMetH prog Rows.guestRunsRow.laid w) false (World.doorLaid prog 400 os) #[.slice none 0 0,.int .i64 0,.slice none 0 0,.bool false] 8 rfl (World.shaped_of_RefB kw kw) kw kw kw (vq os _))
  rfl rfl rfl rfl (fun ds h=>by match ds,h with|[_,_,_,_],_=>rfl) laid0 kw (fun W vs h hx=>by
   have ht:=m6 hx;obtain⟨v0,_,rfl,a0,v1,_,rfl,a1,v2,_,rfl,a2,v3,_,rfl,a3,rfl⟩:=h;obtain⟨A,c,l,rfl,hl,hr⟩:=wx a0;obtain⟨n1,rfl,w1⟩:=a1.int (k:= .i64) rfl;obtain⟨B,cb,b,rfl,h2, -, -⟩:=a2.ints (e:=3) (k:= .i64) rfl rfl rfl;obtain⟨e3,rfl⟩:=a3.bool rfl;exact Au (wW A B c cb l n1 b e3 W hl hr h2 ht))
set_option maxHeartbeats 0 in
theorem sP:Rows.GuestRunsSaid:=
 OpenClaim.holds_of_wide 6 f6 rfl rfl rfl rfl rfl rfl rfl ⟨rfl,rfl,rfl,rfl,rfl⟩ rfl rfl rfl rfl rfl rP func6 rQ sQ sO
  (fun os started H enc _=>qe os started H enc)
set_option maxHeartbeats 0 in
theorem guestRuns_holds:Rows.GuestRunsCardSaid:=
 Claim7.holds_tied_plain_at .later [] [.data] true Rows.guestRunsCard.stood.harness false
  sP (fun _ h=>by cases h) kw (fun _ h=>by cases h) guestRuns_row_tie rfl ⟨rfl,rfl⟩ kw rfl
  (fun f fn hf hfn=>by
   obtain rfl:f=6:=aD ((show prog.funcNamed "innkeeper/innkeeperlaw25.GuestRuns" =some 6 by as_aux_lemma=>kernel_rfl).symm.trans hf)|>.symm
   obtain rfl:fn=f6:=(aD (func6.symm.trans hfn)).symm;exact⟨by as_aux_lemma=>kernel_rfl,fun j t ht=>by
    have hm:t∈f6.params.toList:=by simpa using Array.mem_of_getElem? ht
    have hall:(f6.params.toList.all fun u=> !prog.wantsStandIn u)=true:=by as_aux_lemma=>kernel_rfl
    exact(show prog.wantsStandIn t=false by simpa using bE.1 hall t hm)⟩)
  kw
#print axioms guestRuns_holds
end Go.Proofs.YtakodpimdalajaaGreatDoor
