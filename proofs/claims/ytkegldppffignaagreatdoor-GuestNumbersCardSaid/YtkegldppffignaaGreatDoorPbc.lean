/- For every input the law GuestNumbers answers true and leaves every argument as it was; the table of math/bits is what the program's text lays (the card ties it); no other condition. -/
import Derived.Test.YtkegldppffignaaGreatDoorPaa
import Derived.Test.YtkegldppffignaaGreatDoorPab
import Derived.Test.YtkegldppffignaaGreatDoorPac
import Derived.Test.YtkegldppffignaaGreatDoorPaz
import Derived.Test.YtkegldppffignaaGreatDoorRows
import Derived.JoinedOf
import Derived.Test.YtkegldppffignaaGreatDoorCards
import Derived.Test.YtkegldppffignaaGreatDoorTie
import Derived.SevenTiedAt
set_option linter.unusedSimpArgs false
set_option linter.unusedVariables false
set_option maxRecDepth 100000
set_option maxHeartbeats 4000000
namespace Go.Proofs.YtkegldppffignaaGreatDoor
open Go.RowKit Go.Ink Go.Proofs.Tryz
attribute [local irreducible] OpY bS
theorem H9(o:Int)(A B:Option Addr)(c e na nb:Nat)(n:Int)(tr:Bool)(w:World):Ctr prog 24 [.pointer none,.int .i64 o,.agg #[.slice A na c,.slice B nb e,.int .i64 n],.bool tr] w [] (λv cs=>v= .tuple #[.pointer none,.int .i64 1]/\cs=[]):=by
 refine bN func24 rfl ntmps24 rfl (Inv.start w) ?_;refine Z_2 ?_;refine ZO λb6=>?_;refine jd ?_;refine bW rfl (rfl) ?_;refine Z_9 ?_;refine i9 ?_;exact de
theorem vC(bp:Nat)(o:Int)(A B:Option Addr)(c e na nb n:Nat)(ha:na<=1000000)(h:n<(na+63)/64\/1024<nb)(tr:Bool)(w:World):Ctr prog 24 [.pointer (some ⟨bp,0,none⟩),.int .i64 o,.agg #[.slice A na c,.slice B nb e,.int .i64 n],.bool tr] w [] (λv cs=>v= .tuple #[.pointer none,.int .i64 3]/\cs=[]):=by
 refine bN func24 rfl ntmps24 rfl (Inv.start w) ?_;refine Z_2 ?_;refine ZO λb6=>?_;refine jd ?_;refine fS ?_;refine Zs (bU ⟨λj=>List.elem j [],[]⟩ Zk ?_);refine ZFe 0 0 ?_;refine ZG 1 ?_;refine ZE 2 ?_;refine ZFe 4 2 ?_;refine ZG 5 ?_;refine cG 6 rfl Zk Zk Zk (sd Zv0 Zv0 rfl) rfl ?_;refine cn 3 Zk ?_;refine ZT (λw hi=>pM na Wq1 w) ?_;rintro _ _ ⟨_,⟨rfl,rfl⟩,rfl⟩;refine ZE 7 ?_;refine ZE 8 ?_;refine ZFf 9 1 ?_;refine qO 10 rfl Zk Zk Zk Zk (cy rfl rfl) (bQ Zrf (dh rfl)) (cu Zh rfl) rfl ?_;refine ZF 11 ?_;refine ZF 12 ?_;refine ZE 13 ?_;refine ZE 14 ?_;refine dx ?_;refine Zt (bW rfl ((by rw[if_neg (show¬(0:Int)>(n:Int) by omega)];rcases h with h|h;(rw[ax (show(n:Int)<(((na+63)/64:Nat):Int) by omega),Bool.true_or]);(rw[ax (show(1024:Int)<(nb:Int) by omega),Bool.or_true]))) ?_);refine Z_9 ?_;refine i9 ?_;exact de
theorem GC(bp:Nat)(o n:Int)(h:4<=o\/n<1\/64<n)(w:World):Ctr prog 50 [.pointer (some ⟨bp,0,none⟩),.int .i64 o,.int .i64 n] w [] (λv cs=>v= .tuple #[.pointer none,.int .i64 1]/\cs=[]):=by
 refine bN func50 rfl ntmps50 rfl (Inv.start w) ?_;refine mn ?_;refine Z_9 ?_;refine bW rfl ((by rcases h with h|h|h;(rw[ax h,Bool.or_true,Bool.true_or,Bool.true_or]);(rw[ax h,Bool.or_true,Bool.true_or]);(rw[ax h,Bool.or_true]))) ?_;refine Z_8 ?_;refine i9 ?_;exact de
theorem tJ(bp:Nat)(o n:Int)(h:4<=o\/n<1\/64<n)(tr:Bool)(w:World):Ctr prog 24 [.pointer (some ⟨bp,0,none⟩),.int .i64 o,.agg #[.slice none 0 0,.slice none 0 0,.int .i64 n],.bool tr] w [] (λv cs=>v= .tuple #[.pointer none,.int .i64 1]/\cs=[]):=by
 refine bN func24 rfl ntmps24 rfl (Inv.start w) ?_;refine Z_2 ?_;refine ZO λb6=>?_;refine jd ?_;refine fS ?_;refine Zs (bU ⟨λj=>List.elem j [],[]⟩ Zk ?_);refine ZFe 0 0 ?_;refine ZG 1 ?_;refine ZE 2 ?_;refine ZFe 4 2 ?_;refine ZG 5 ?_;refine cG 6 rfl Zk Zk Zk (sd Zv0 Zv0 rfl) rfl ?_;refine cn 3 Zk ?_;refine ZT (λw hi=>pM 0 Wq5 w) ?_;rintro _ _ ⟨_,⟨rfl,rfl⟩,rfl⟩;refine ZE 7 ?_;refine ZE 8 ?_;refine ZFf 9 1 ?_;refine qO 10 rfl Zk Zk Zk Zk (cy rfl rfl) (bQ Zrf (dh rfl)) (cu Zh rfl) rfl ?_;refine ZF 11 ?_;refine ZF 12 ?_;refine ZE 13 ?_;refine ZE 14 ?_;refine dx ?_;refine Zt (dc rfl ((by rw[aw (show¬(if(0:Int)>n then(0:Int)else n)<(((0+63)/64:Nat):Int) by split<;>omega)];rfl)) ?_);refine Z_9 ?_;refine ZSe (λw hi=>GC bp o n h w) ?_;refine gy ?_;refine bW rfl (rfl) ?_;refine Z_9 ?_;refine i9 ?_;exact de
theorem Az(bp:Nat)(B ow pr:List Int)(hl:dF B ow pr)(o n:Nat)(ho:o<4)(hn:n<=64)(x:Int)(h1:pr[o]? =some x)(hx:0<=x)(w:World)(h:(dj bp B ow pr).ok w):
  Ctr prog 81 [.pointer (some ⟨bp,0,none⟩),.int .i64 o,.int .i64 n] w [] (λv cs=>v= .int .i64 24/\cs=[]):=by
 refine bN func81 rfl ntmps81 rfl (Inv.start w) ?_;refine dS ?_;refine ZSe (λw hi=>tP o w) ?_;rw[ax (show(0:Int)<=o by omega),ax (show(o:Int)<4 by omega)];refine gR ?_;refine dc rfl ((by rw[aw (show¬(n:Int)<0 by omega),aw (show¬(64:Int)<n by omega)];rfl)) ?_;refine Z_5 ?_;refine ZFa 16640 ?_;refine Zy (cX (j:=o) (sz:=1) (r:=16640+o) rfl Zrf (Zv rfl) (Zv rfl) Wq4 Wq4 Wq1) ?_;refine dN (bQ Zrf Zv0) (dy h (w7 hl h1)) rfl ?_;refine Z_4 ?_;refine bW rfl ((by rw[bne_iff_ne];omega)) ?_;refine fX ?_;exact de
theorem AZ(bp:Nat)(B ow pr:List Int)(hl:dF B ow pr)(o n:Nat)(ho:o<4)(hn0:1<=n)(hn:n<=64)(x:Int)(h1:pr[o]? =some x)(hx:0<=x)(tr:Bool)(w:World)(h:(dj bp B ow pr).ok w):
  Ctr prog 24 [.pointer (some ⟨bp,0,none⟩),.int .i64 o,.agg #[.slice none 0 0,.slice none 0 0,.int .i64 n],.bool tr] w [] (λv cs=>v= .tuple #[.pointer none,.int .i64 24]/\cs=[]):=by
 have HN:∀w,(dj bp B ow pr).ok w->Ctr prog 50 [.pointer (some ⟨bp,0,none⟩),.int .i64 o,.int .i64 n] w [] (λv cs=>v= .tuple #[.pointer none,.int .i64 24]/\cs=[]):=λw h=>by
  refine bN func50 rfl ntmps50 rfl (Inv.start w) ?_;refine mn ?_;refine Z_9 ?_;refine dc rfl ((by rw[aw (show¬(o:Int)<0 by omega),aw (show¬(4:Int)<=o by omega),aw (show¬(n:Int)<1 by omega),aw (show¬(64:Int)<n by omega)];rfl)) ?_;refine Z_8 ?_;refine ZSe (λw hi=>Az bp B ow pr hl o n ho hn x h1 hx w (bL.old h hi)) ?_;refine Z_9 ?_;refine bW rfl (rfl) ?_;refine Z_9 ?_;refine i9 ?_;exact de
 refine bN func24 rfl ntmps24 rfl (Inv.start w) ?_;refine Z_2 ?_;refine ZO λb6=>?_;refine jd ?_;refine fS ?_;refine Zs (bU ⟨λj=>List.elem j [],[]⟩ Zk ?_);refine ZFe 0 0 ?_;refine ZG 1 ?_;refine ZE 2 ?_;refine ZFe 4 2 ?_;refine ZG 5 ?_;refine cG 6 rfl Zk Zk Zk (sd Zv0 Zv0 rfl) rfl ?_;refine cn 3 Zk ?_;refine ZT (λw hi=>pM 0 Wq5 w) ?_;rintro _ _ ⟨_,⟨rfl,rfl⟩,rfl⟩;refine ZE 7 ?_;refine ZE 8 ?_;refine ZFf 9 1 ?_;refine qO 10 rfl Zk Zk Zk Zk (cy rfl rfl) (bQ Zrf (dh rfl)) (cu Zh rfl) rfl ?_;refine ZF 11 ?_;refine ZF 12 ?_;refine ZE 13 ?_;refine ZE 14 ?_;refine dx ?_;refine Zt (dc rfl ((by rw[if_neg (show¬(0:Int)>(n:Int) by omega),aw (show¬(n:Int)<(((0+63)/64:Nat):Int) by omega)];rfl)) ?_);refine Z_9 ?_;refine ZSe (λw hi=>HN w (bL.old h hi)) ?_;refine gy ?_;refine bW rfl (rfl) ?_;refine Z_9 ?_;refine i9 ?_;exact de
end Go.Proofs.YtkegldppffignaaGreatDoor
namespace Go.Ink
end Go.Ink
namespace Go.Proofs.YtkegldppffignaaGreatDoor
open Go.RowKit Go.Ink Go.Proofs.Tryz
attribute [local irreducible] OpY bS
theorem D7(w:World)(ht:iG w):Ctr prog 31 [] w [] (λv cs=>v= .bool true/\cs=[]):=by
 have HF:=Ba;have hb:u8s [1,65,2,16,128,0,0,49,69]:=by rw[<-CI];exact nk _ _
 have HC:=λA c w h=>Bh A c codeG (show(4:Nat)<=1000 by decide) w h
 rw[CI]at HC;have HN:=λbp A c w hi hA hB=>xt bp 0 2 (List.replicate 16384 0) aI Wq5 Wq5 Wq5 A none c 0 [1,65,2,16,128,0,0,49,69] [] Wq5 hb Wq5 (λx hx=>by cases hx) true w hi hA hB
 have hK:=D6;obtain⟨W0,hW0⟩:=Zgn (List.replicate 256 (-1:Int));obtain⟨B0,hB0⟩:=Zgn (List.replicate 16384 (0:Int));obtain⟨P0,hP0⟩:=Zgn (List.replicate 4 (-1:Int));obtain⟨l0,hl0⟩:∃l:List Int,[1,65,2,16,128,0,0,49,69]=l:=⟨_,rfl⟩;rw[hB0,hW0]at HF HN;rw[hP0]at HF HN;rw[hl0]at HC HN hK;have hl9:l0.length=9:=by rw[<-hl0];rfl
 obtain⟨U0,hU⟩:=Zgn ((⟨Mem.load 2 l0,dz⟩:Mmu));obtain⟨d0,hd⟩:=Zgn (Dev.init []);have ho:d0.out.length<=0:=by rw[<-hd];exact aM _
 rw[hU,hd]at hK;obtain⟨⟨s9,U9,d9⟩,hR⟩:=Zgn (eW 2 9 St.new U0 d0);rw[hR]at hK;simp only[Mq,aL,beq_iff_eq]at hK;obtain⟨⟨⟨k1,k2⟩,k3⟩,k4⟩:=hK;have HG:∀(H:rp) (G:Gst),Jg H.L.bp 0 2 B0 W0 P0 l0 [] true H G->H.L.n=2/\G.ok H.L.n/\G.d.out.length<=0/\eW H.L.n 9 G.s G.U G.d=(s9,U9,d9)/\G.s.count=0:=λH G h=>⟨h.hn,by rw[h.hn];exact h.ok,by rw[h.hd,hd];exact ho,by rw[h.hn,h.hs,h.hu,h.hd,hU,hd];exact hR,by rw[h.hs];rfl⟩
 refine bN func31 rfl ntmps31 rfl (Inv.start w) ?_;refine Z_7 ?_;refine ZS (λw hi=>HF w) ?_;rintro _ _ ⟨_,⟨bp,rfl,rfl⟩,rfl⟩;refine dS ?_;refine fS ?_;refine Z_8 ?_;refine ro ?_;rintro _ _ ⟨b13,rfl,rfl⟩;refine ZS (λw hi=>HC (some ⟨b13,0,none⟩) 4 w (hi.rd (show Has _ (slv 27 2 (some ⟨b13,0,none⟩) 4 4 (codeG.flatMap dR))from Zh))) ?_;rintro _ _ ⟨_,⟨A1,c1,rfl,rfl⟩,rfl⟩;refine Z_8 ?_;refine ZcL ([dj bp B0 W0 P0]) (λw hi hin=>HN bp A1 c1 w hin (λw' hk=>hi.NE Zi (show Has _ (sl .u8 5 A1 l0.length c1 l0)from Zh) hk) (λw' hk=>wV w' .u8)) ?_;rintro _ _ ⟨_,⟨H,G,hBo,rfl,rfl⟩,rfl⟩;obtain rfl:H.L.bp=bp:=hBo.hbp;obtain⟨hn2,hG,hoG,hrG,hcG⟩:=HG H G hBo;have HR:=λw hi ht=>lf H G Wq1 hG 9 Wq5 Wq5 (by rw[show(9:Int).toNat=9 from rfl];omega) w hi ht
 rw[hrG,hcG]at HR;dsimp only at HR;rw[k2]at HR;refine Bn ?_;refine fS ?_;refine Z_5 ?_;refine ZcL (gsF H G) (λw hi hin=>HR w hin (λw' hk=>RdV.M6 ht hi Zi hk)) ?_;rintro _ _ ⟨_,⟨⟨s2,X2,Y2,U2,d2,o2⟩,⟨hG2,hr2, -⟩,rfl,rfl⟩,rfl⟩;simp only[aV]at hr2;obtain⟨rfl,rfl,rfl⟩:=hr2;have hg2:=hG2.g;dsimp only at hg2;obtain⟨he16,hf16, -⟩:=St.fits hg2.right;refine Z_6 ?_;refine Zy (jc (Zv rfl) (Zv rfl) (show _=true from rfl)) ?_;refine Z_8 ?_;refine fF (bR rfl rfl) rfl (cU rfl (λ_ _=>rfl) (λw hi=>nj H.D.bcn Y2.Ao Y2.co d2.out Y2.Ai d2.inp.length Y2.ci (by rw[k3];decide) w (hi.get Zh) (hi.get Zh))) rfl ?_;rintro _ _ ⟨_,⟨A5,c5,rfl,rfl⟩,rfl⟩;refine dU (λw hi=>jf (hi.rd (show Has _ (b8 A5 c5 d2.out)from Zh))) (λhrd41=>?_);refine iu (bR rfl rfl) (je rfl rfl rfl (dh rfl) hrd41) (λw hi=>RdV.M8 (hi.rd (show Has _ (b8 A5 c5 d2.out)from Zh))) rfl ?_;refine Zyy rfl rfl (my rfl (dh rfl) (Zv rfl) (show _=true from by rw[k3];rfl)) ?_;refine Z_3 ?_;refine fF (bR rfl rfl) rfl (cU rfl (λ_ _=>rfl) (λw hi=>i5 H ⟨s2,X2,Y2,U2,d2,o2⟩ w (hi.get Zh) (hi.NM (show Has _ (slD s2 X2.Ad X2.cd)from Zh) (show Has _ (slR s2 X2.Ar X2.cr)from Zh) (by show s2.d.length*4<=_;omega) (by show s2.r.length*4<=_;omega)))) rfl ?_;rintro _ _ ⟨_,⟨A3,c3,A4,c4,rfl,rfl⟩,rfl⟩;refine Zyy rfl rfl (lM rfl rfl Zrf (dh rfl) (congrArg (λb=>some (Value.bool b)) k1)) ?_;refine Z_9 ?_;refine fF (bR rfl rfl) rfl (cU rfl (λ_ _=>rfl) (λw hi=>pX H.D.bcn Y2.Ao d2.out.length Y2.co Y2.Ai d2.inp.length Y2.ci w (hi.get Zh))) rfl ?_;rintro _ _ ⟨_,⟨rfl,rfl⟩,rfl⟩;refine Zyy rfl rfl (jc (dh rfl) (Zv rfl) (show _=true from by rw[k4];rfl)) ?_;refine Z_6 ?_;refine fF (bR rfl rfl) rfl (cU rfl (λ_ _=>rfl) (λw hi=>kR H.L U2.m w (hi.get (show Has _ (eA H.L U2.m)from Zh)))) rfl ?_;rintro _ _ ⟨_,⟨rfl,rfl⟩,rfl⟩;refine Zyy rfl rfl (jc (dh rfl) (Zv rfl) (show _=true from by rw[hn2];rfl)) ?_;refine Z_5 ?_;refine Zra ?_;exact de
theorem H5(H:rp)(G:Gst)(tr:Bool)(w:World)(hm:(eA H.L G.U.m).ok w):Ctr prog 24 [.pointer (some ⟨H.L.bp,0,none⟩),.int .i64 (H.L.o:Int),.agg #[.slice none 0 0,.slice none 0 0,.int .i64 1],.bool tr] w [] (λv cs=>v= .tuple #[.pointer none,.int .i64 24]/\cs=[]):=by
 obtain⟨k,hr,h1, -⟩:=mg hm;exact AZ H.L.bp k.B k.ow k.pr hr.pl H.L.o 1 hr.o4 Wq5 Wq5 _ hr.prom Wq1 tr w h1
theorem La(H:rp)(G:Gst)(w:World)(hm:(eA H.L G.U.m).ok w):Ctr prog 25 [.pointer (some ⟨H.L.bp,0,none⟩),.int .i64 (H.L.o:Int)] w [] (λv cs=>v= .int .i64 (H.L.n:Int)/\cs=[]):=by
 obtain⟨k,hr,h1, -⟩:=mg hm;have e:=mL H.L.bp k.B k.ow k.pr hr.pl H.L.o hr.o4 _ hr.prom w h1;rwa[if_neg (show¬(0:Int)>(H.L.n:Int) by omega)]at e
theorem tE(w:World)(ht:iG w):Ctr prog 5 [] w [] (λv cs=>v= .bool true/\cs=[]):=by
 obtain⟨W0,hW0⟩:=Zgn (List.replicate 256 (-1:Int));obtain⟨B0,hB0⟩:=Zgn (List.replicate 16384 (0:Int));obtain⟨P0,hP0⟩:=Zgn (List.replicate 4 (-1:Int));have hfree:qD W0 256=240:=by rw[<-hW0];exact free0
 have hP:P0[0]? =some (-1):=by rw[<-hP0];rfl
 have hPn:∀x:Int,(P0.set 0 x).set 0 (-1)=P0:=λx=>by rw[<-hP0,List.set_set];rfl
 have hWl:W0.length=256:=by rw[<-hW0];exact aI
 have hWn:∀x,x∈W0->x≠((0:Nat):Int):=λx hx=>by rw[<-hW0]at hx;rw[List.eq_of_mem_replicate hx];decide
 have hPL:dF B0 W0 P0:=by rw[<-hW0,<-hB0,<-hP0];exact Gt
 have HF:=Ba;have HN:=λbp A c w hi hA=>xt bp 0 4 (List.replicate 16384 0) aI Wq5 Wq5 Wq5 A none c 0 [1,2] [] Wq5 (λx hx=>by simp at hx;omega) Wq5 (λx hx=>by cases hx) false w hi hA (λw' _=>wV w' .u8)
 rw[hB0,hW0,hP0]at HF HN;refine bN func5 rfl ntmps5 rfl (Inv.start w) ?_;refine Z_7 ?_;refine ZS (λw hi=>HF w) ?_;rintro _ _ ⟨_,⟨bp,rfl,rfl⟩,rfl⟩;refine dS ?_;refine fS ?_;refine Z_5 ?_;refine ZSe (λw hi=>H9 0 none none 0 0 0 0 1 true w) ?_;refine dS ?_;refine gj (kO (bytes:=1) (n:=65) rfl rfl rfl rfl rfl rfl rfl Wq1 gS) rfl ?_;rintro _ _ ⟨b29,rfl,rfl⟩;refine ZA ?_;refine ZSe (λw hi=>vC bp 0 (some ⟨b29,0,none⟩) none 65 0 65 0 1 Wq5 (.inl Wq5) true w) ?_;refine dS ?_;refine gj (kO (bytes:=1) (n:=1025) rfl rfl rfl rfl rfl rfl rfl Wq1 gS) rfl ?_;rintro _ _ ⟨b36,rfl,rfl⟩;refine ZA ?_;refine ZSe (λw hi=>vC bp 0 none (some ⟨b36,0,none⟩) 0 1025 0 1025 1 Wq5 (.inr Wq5) true w) ?_;refine fE ?_;refine ZSe (λw hi=>tJ bp 0 0 (.inr (.inl Wq5)) false w) ?_;refine fE ?_;refine ZSe (λw hi=>tJ bp 4 1 (.inl Wq5) false w) ?_;refine fE ?_;refine ZSe (λw hi=>tJ bp 0 65 (.inr (.inr Wq5)) false w) ?_;refine fE ?_;refine ZSe (λw hi=>mL bp B0 W0 P0 hPL 0 Wq5 (-1) hP w (hi.get Zh)) ?_;refine Z_3 ?_;refine fS ?_;refine Z_5 ?_;refine jO ?_;rintro _ _ ⟨b64,rfl,rfl⟩;refine ZA ?_;refine ZcL ([dj bp B0 W0 P0]) (λw hi hin=>HN bp (some ⟨b64,0,none⟩) 2 w hin (λw' hk=>hi.NE Zi (show Has _ (slv 5 1 (some ⟨b64,0,none⟩) 2 2 (ints .u8 [1,2]))from Zh) hk)) ?_;rintro _ _ ⟨_,⟨H,G,hBo,rfl,rfl⟩,rfl⟩;obtain rfl:H.L.bp=bp:=hBo.hbp;have hn4:H.L.n=4:=hBo.hn;have ho0:H.L.o=0:=hBo.ho;have hgw:H.L.gw=W0:=hBo.hgw;have hgp:H.L.gp=P0.set 0 4:=hBo.hgp;clear hBo;have HT:=H5 H G true;have HP:=La H G;have HKl:=λw hi=>Lb H G Wq1 (by rw[hgw];exact hWl) (by rw[hgw,ho0];exact hWn) w hi
 rw[hgw,hgp,ho0,hPn]at HKl;rw[ho0]at HT HP;rw[hn4]at HP;refine fE ?_;refine ZSe (λw hi=>HT w (hi.get (show Has _ (eA H.L G.U.m)from Zh))) ?_;refine gy ?_;refine fF (cy rfl rfl) rfl (cU rfl (λ_ _=>rfl) (λw hi=>HP w (hi.get (show Has _ (eA H.L G.U.m)from Zh)))) rfl ?_;rintro _ _ ⟨_,⟨rfl,rfl⟩,rfl⟩;refine Z_4 ?_;refine fS ?_;refine Z_5 ?_;refine ZcL (gsF H G) (λw hi hin=>HKl w hin) ?_;rintro _ _ ⟨_,⟨B,⟨e1, -⟩,rfl⟩,rfl⟩;refine Z_5 ?_;refine ZSe (λw hi=>H4 H G w (hi.get Zh)) ?_;refine ZN λb18=>?_
 refine ZM ?_;refine Z_5 ?_;refine Zy (jc (Zv rfl) (Zv rfl) (show _=true from rfl)) ?_;refine Z_2 ?_;refine Wq43 ?_;refine Z_3 ?_;refine Wq43 ?_;refine Z_3 ?_;refine Zyy rfl rfl (jc (dh rfl) (Zv rfl) (show _=true from rfl)) ?_;refine Z_2 ?_;refine ZFb 22 ?_;refine Z_6 ?_;refine Zyy rfl rfl (jc (dh rfl) (Zv rfl) (show _=true from rfl)) ?_;refine Z_5 ?_;refine Zyy rfl rfl (jc (dh rfl) (Zv rfl) (show _=true from rfl)) ?_;refine Z_3 ?_;refine fF (bR rfl rfl) rfl (cU rfl (λ_ _=>rfl) (λw hi=>K9 H G 5 w (hi.get Zh))) rfl ?_;rintro _ _ ⟨_,⟨rfl,rfl⟩,rfl⟩;refine Zyy rfl rfl (jc (dh rfl) (Zv rfl) (show _=true from rfl)) ?_;refine Z_3 ?_;refine fF (bR rfl rfl) rfl (g9 rfl rfl Zrf Zrf rfl rfl) rfl ?_;rintro _ _ ⟨b139,rfl,rfl⟩;refine fF (bR rfl rfl) rfl (cU rfl (λ_ _=>rfl) (λw hi=>Eh H G (.slice (some ⟨b139,0,none⟩) 1 1) w (hi.get Zh))) rfl ?_;rintro _ _ ⟨_,⟨rfl,rfl⟩,rfl⟩;refine Zyy rfl rfl (jc (dh rfl) (Zv rfl) (show _=true from rfl)) ?_;refine Z_3 ?_;refine fF (bR rfl rfl) rfl (cU rfl (λ_ _=>rfl) (λw hi=>Eg H G true w (hi.get Zh))) rfl ?_;rintro _ _ ⟨_,⟨rfl,rfl⟩,rfl⟩;refine Z_3 ?_;refine fF (bR rfl rfl) rfl (cU rfl (λ_ _=>rfl) (λw hi=>Kn H.L.bp B W0 P0 e1 w (hi.get Zh))) rfl ?_;rintro _ _ ⟨_,⟨rfl,rfl⟩,rfl⟩;rw[hfree];refine Zyy rfl rfl (jc (dh rfl) (Zv rfl) (show _=true from rfl)) ?_;refine Z_3 ?_;refine fF (bR rfl rfl) rfl (cU rfl (λ_ _=>rfl) (λw hi=>mL H.L.bp B W0 P0 e1 0 Wq5 (-1) hP w (hi.get Zh))) rfl ?_;rintro _ _ ⟨_,⟨rfl,rfl⟩,rfl⟩;refine Zyy rfl rfl (jc (dh rfl) (Zv rfl) (show _=true from rfl)) ?_;refine Z_3 ?_;refine fF (bR rfl rfl) rfl (cU rfl (λ_ _=>rfl) (λw hi=>A0 H G w (hi.get Zh))) rfl ?_;rintro _ _ ⟨_,⟨rfl,rfl⟩,rfl⟩;refine ZB ?_;refine Zyy rfl rfl (jc (dh rfl) (Zv rfl) (show _=true from rfl)) ?_;refine Z_2 ?_;refine fF (bR rfl rfl) rfl (cU rfl (λ_ _=>rfl) (λw hi=>D7 w (ht.old hi))) rfl ?_;rintro _ _ ⟨_,⟨rfl,rfl⟩,rfl⟩;refine Z_5 ?_;refine Zra ?_;exact de
open Go
set_option maxRecDepth 100000 in
set_option maxHeartbeats 0 in
theorem pL:joinedFacts checked.prog 5 f5 Rows.guestNumbersSpec Rows.guestNumbersRow=true:=by
 unfold joinedFacts
 repeat refine andI ?_ Wq6
 as_aux_lemma=>kernel_rfl
set_option maxHeartbeats 0 in
theorem qA:f5.isInstance checked.prog Rows.guestNumbersRow.origin Rows.guestNumbersRow.targs:=of_decide_eq_true (by kernel_rfl)
set_option maxHeartbeats 0 in
theorem qy:f5.isWrapper checked.prog Rows.guestNumbersRow.wrapper Rows.guestNumbersRow.mainSum:=of_decide_eq_true (by kernel_rfl)
set_option maxHeartbeats 0 in
theorem pK:checked.prog.funcNamed Rows.guestNumbersRow.func=some 5:=by kernel_rfl
theorem fa{W:World}(h:laidMetH prog Rows.guestNumbersRow.laid W):iG W:=
 kj (t:=262) (e:=5) (Ni:=uy) h (MakeChecks.laidMetH_plain _ _ _ Wq6) rfl (g:=0) Wq6 Wq6 Wq6 Wq6 Wq6 rfl gS
theorem i7(os:Os)(args:Array Value):laidMetH prog Rows.guestNumbersRow.laid ((World.doorLaid prog 400 os).forCall (λ_ _=>0) ⟨#[],args,[]⟩).memory:=
 laidMetH_of_parts3 (fuel:=8) (laidMet_of_run' 8 Wq6 Wq6) Wq6 Wq6
set_option maxRecDepth 100000 in
theorem oo(os:Os)(started:os.Started)(H:Type)(enc:TypeId×Value->H):
  ReturnsInHanded {} checked os 5 .any (λw args=>(Rows.guestNumbersSpec.pre enc prog f5 [] false w args/\laidMetH prog Rows.guestNumbersRow.laid w)/\sizedMet enc prog f5 (OpenSpec.ofChange Rows.guestNumbersSpec) false w args) (Rows.guestNumbersSpec.post enc prog f5 false true false false):=
 lz (C:=checked) (ts:=[]) own0 started Wq6 func5
  (ChangeSpec.witness_shaped (enc:=enc) (C:=checked) (os:=os) (X:=λw _=>laidMetH prog Rows.guestNumbersRow.laid w) false (World.doorLaid prog 400 os) #[] 8 rfl (World.shaped_of_RefB Wq6 Wq6) Wq6 Wq6 Wq6 (i7 os _))
  rfl rfl rfl rfl (λds h=>by match ds,h with|[],_=>rfl) AO Wq6 (λW vs h hx=>by
   have ht:=fa hx;subst h;exact nP (tE W ht))
set_option maxHeartbeats 0 in
theorem qz:Rows.GuestNumbersSaid:=
 OpenClaim.holds_of_wide 5 f5 rfl rfl rfl rfl rfl rfl rfl ⟨rfl,rfl,rfl,rfl,rfl⟩ rfl rfl rfl rfl rfl pK func5 pL qA qy
  (λos started H enc _=>oo os started H enc)
set_option maxHeartbeats 0 in
theorem guestNumbers_holds:Rows.GuestNumbersCardSaid:=
 Claim7.holds_tied_plain_at .later [] [.data] true Rows.guestNumbersCard.stood.harness false
  qz (λ_ h=>by cases h) Wq6 (λ_ h=>by cases h) guestNumbers_row_tie rfl ⟨rfl,rfl⟩ Wq6 rfl
  (λf fn hf hfn=>by
   obtain rfl:f=5:=ay ((show prog.funcNamed "innkeeper/innkeeperlaw25.GuestNumbers" =some 5 by as_aux_lemma=>kernel_rfl).symm.trans hf)|>.symm
   obtain rfl:fn=f5:=(ay (func5.symm.trans hfn)).symm;exact⟨by as_aux_lemma=>kernel_rfl,λj t ht=>by
    have hm:t∈f5.params.toList:=by simpa using Array.mem_of_getElem? ht
    have hall:(f5.params.toList.all λu=> !prog.wantsStandIn u)=true:=by as_aux_lemma=>kernel_rfl
    exact(show prog.wantsStandIn t=false by simpa using bo.1 hall t hm)⟩)
  Wq6
#print axioms guestNumbers_holds
end Go.Proofs.YtkegldppffignaaGreatDoor
