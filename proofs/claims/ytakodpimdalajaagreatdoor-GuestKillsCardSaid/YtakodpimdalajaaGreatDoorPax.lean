/- For every input the law GuestKills answers true and leaves every argument as it was; the table of math/bits is what the program's text lays (the card ties it); no other condition. -/
import Derived.Test.YtakodpimdalajaaGreatDoorPaa
import Derived.Test.YtakodpimdalajaaGreatDoorPab
import Derived.Test.YtakodpimdalajaaGreatDoorPac
import Derived.Test.YtakodpimdalajaaGreatDoorPaw
import Derived.Test.YtakodpimdalajaaGreatDoorRows
import Derived.JoinedOf
import Derived.Test.YtakodpimdalajaaGreatDoorCards
import Derived.Test.YtakodpimdalajaaGreatDoorTie
import Derived.SevenTiedAt
set_option linter.unusedSimpArgs false
set_option linter.unusedVariables false
set_option maxRecDepth 100000
set_option maxHeartbeats 4000000
namespace Go.Proofs.YtakodpimdalajaaGreatDoor
open Go.RowKit Go.Ink Go.Proofs.Tryz
attribute [local irreducible] OpY bP
abbrev dgRow(R:vB)(s:St)(X:jq):bJ:=row R.bg (s.cells (.slice X.Ad s.d.length X.cd) (.slice X.Ar s.r.length X.cr)++[.pointer (some ⟨R.bx,0,none⟩),.pointer (some ⟨R.by_,0,none⟩)]) 144
abbrev dbRow(R:vB)(Y:lz)(d:Dev):bJ:=row R.by_ [.pointer (some ⟨R.K.bm,0,none⟩),.int .u32 d.JH,.int .u32 d.mask,.int .u32 d.timer,.slice Y.Ao d.out.length Y.co,.slice Y.Ai d.inp.length Y.ci,.slice (some ⟨R.bd,0,none⟩) 1024 1024,.int .u32 (d.Jm:Int),.int .u32 (d.place:Int),.int .u32 d.status] 155
abbrev dmRow(R:vB)(n:Nat):bJ:=row R.K.bm [.slice (some ⟨R.K.bB,0,none⟩) (n*64) (n*64),.slice (some ⟨R.K.bT,0,none⟩) n n] 147
theorem If(R:vB)(n:Nat)(s:St)(X:jq)(T:List TE)(Y:lz)(d:Dev)(data:List Int)(hda:data.length=n*64)(hdk:d.JE.length=1024)(w:World)(h0:(dgRow R s X).ok w)(h1:(lQ R.bx R.K.bm T).ok w)(h2:(dmRow R n).ok w)(h3:(dbRow R Y d).ok w):
  Ctr prog 35 [.pointer (some ⟨R.bg,0,none⟩)] w [] (fun v cs=>v=vv ⟨s,data,d.out,d.inp,d.JE,d.JH,d.mask,false⟩ ⟨X,some ⟨R.K.bB,0,none⟩,n*64,Y.Ao,Y.co,Y.Ai,Y.ci,some ⟨R.bd,0,none⟩,1024⟩∧cs=[]):=by
 unfold vv Vw.cells;dsimp only;rw[hda,hdk];refine bL func35 rfl ntmps35 rfl (Inv.start w) ?_;refine Z_2 ?_;refine ZN fun b2=>?_;refine Z_3 ?_;refine bR ⟨fun j=>List.elem j [50],[]⟩ Zk ?_;refine gn ?_;refine ZFe 2 0 ?_;refine dm 3 rfl Zk Zk Zk Zk (cn (vs:=s.cells (.slice X.Ad s.d.length X.cd) (.slice X.Ar s.r.length X.cr)) Zrf Zrf Zv0) (oq (o:=0) h0 rfl) rfl ?_;refine ZE 4 ?_;refine ZE 5 ?_;refine ZFe 6 16 ?_;refine dm 7 rfl Zk Zk Zk Zk (bO Zrf (Zv rfl)) (cS (by assumption) rfl) rfl ?_;refine ZE 8 ?_;refine ZFe 9 0 ?_;refine dm 10 rfl Zk Zk Zk Zk (bO Zrf (Zv rfl)) (cS (by assumption) rfl) rfl ?_;refine ZE 11 ?_;refine ZFe 12 0 ?_;refine dm 13 rfl Zk Zk Zk Zk (bO Zrf (Zv rfl)) (cS (by assumption) rfl) rfl ?_;refine ZE 14 ?_;refine ZE 15 ?_;refine ZFe 16 17 ?_;refine dm 17 rfl Zk Zk Zk Zk (bO Zrf (Zv rfl)) (cS (by assumption) rfl) rfl ?_;refine ZE 18 ?_;refine ZFe 19 4 ?_;refine dm 20 rfl Zk Zk Zk Zk (bO Zrf (Zv rfl)) (cS (by assumption) rfl) rfl ?_;refine ZE 21 ?_;refine ZE 22 ?_;refine ZFe 23 17 ?_;refine dm 24 rfl Zk Zk Zk Zk (bO Zrf (Zv rfl)) (cS (by assumption) rfl) rfl ?_;refine ZE 25 ?_;refine ZFe 26 5 ?_;refine dm 27 rfl Zk Zk Zk Zk (bO Zrf (Zv rfl)) (cS (by assumption) rfl) rfl ?_;refine ZE 28 ?_;refine ZE 29 ?_;refine ZFe 30 17 ?_;refine dm 31 rfl Zk Zk Zk Zk (bO Zrf (Zv rfl)) (cS (by assumption) rfl) rfl ?_;refine ZE 32 ?_;refine ZFe 33 6 ?_;refine dm 34 rfl Zk Zk Zk Zk (bO Zrf (Zv rfl)) (cS (by assumption) rfl) rfl ?_;refine ZE 35 ?_;refine ZE 36 ?_;refine ZFe 37 17 ?_;refine dm 38 rfl Zk Zk Zk Zk (bO Zrf (Zv rfl)) (cS (by assumption) rfl) rfl ?_;refine ZE 39 ?_;refine ZFe 40 1 ?_;refine dm 41 rfl Zk Zk Zk Zk (bO Zrf (Zv rfl)) (cS (by assumption) rfl) rfl ?_;refine ZE 42 ?_;refine ZE 43 ?_;refine ZFe 44 17 ?_;refine dm 45 rfl Zk Zk Zk Zk (bO Zrf (Zv rfl)) (cS (by assumption) rfl) rfl ?_;refine ZE 46 ?_;refine ZFe 47 2 ?_;refine dm 48 rfl Zk Zk Zk Zk (bO Zrf (Zv rfl)) (cS (by assumption) rfl) rfl ?_;refine ZE 49 ?_;refine ce 50 Zk ?_;refine ZR ?_;refine dr ?_;refine Z_2 ?_;refine lP (cs':=[]) (.inl rfl) Zu rfl rfl Zh Zrf Zrf ?_;exact df
theorem doc_rd(R:vB)(n:Nat)(data:List Int)(hda:data.length=n*64)(w:World)(h1:Rd w .u8 (some ⟨R.K.bB,0,none⟩) (n*64) (n*64) data)(h2:Rd w .u8 (some ⟨R.bd,0,none⟩) 1024 1024 (Dev.init []).JE):
  Ji w ⟨St.new,data,(Dev.init []).out,(Dev.init []).inp,(Dev.init []).JE,(Dev.init []).JH,(Dev.init []).mask,false⟩ ⟨⟨none,0,none,0⟩,some ⟨R.K.bB,0,none⟩,n*64,none,0,none,0,some ⟨R.bd,0,none⟩,1024⟩:=
 ⟨lA.nil_ w rfl rfl,by show Rd w .u8 _ data.length _ data;rw[hda];exact h1,o7 w .u8,o7 w .u8,h2⟩
theorem Aj:Ce.wf:=⟨⟨u0,u0,u0,u0,u0,u0,u0,⟨Int.le_refl _,show(0:Int)≤18446744073709551615 by decide⟩,fun x hx=>(by cases hx),fun x hx=>(by cases hx)⟩,fun x hx=>(by cases hx),fun x hx=>(by cases hx),fun x hx=>(by cases hx),fun x hx=>(by cases hx)⟩
theorem Aq(w:World):Ji w Ce nilY:=⟨lA.nil_ w rfl rfl,o7 w .u8,o7 w .u8,o7 w .u8,o7 w .u8⟩
theorem vj(A:Option Addr)(c:Nat)(l:List vA)(Jl n:Int)(tr:Bool)(w:World)(h:RdV w 5 A l.length c (l.flatMap vA.cells))(hl:∀a,a∈l→a.ok w)(ht:lx w):
  Ctr prog 7 [.slice A l.length c,.int .i64 Jl,.int .i64 n,.bool tr] w [] (fun v cs=>v= .bool true∧cs=[]):=by
 have HI:=fun w h hl=>zN A none c 0 l Jl [] (fun x hx=>by cases hx) w h hl (o7 w .u8)
 obtain⟨m,hm⟩:=Zgn (jG n 0 80);have hmr:=mD n 0 80 Wq5;rw[hm]at hmr;have HW:=fun w=>hm▸nI n 0 80 w Wq5 Wq5 Wq5
 obtain⟨W0,hW0⟩:=Zgn (List.replicate 256 (-1:Int));obtain⟨B0,hB0⟩:=Zgn (List.replicate 16384 (0:Int));obtain⟨P0,hP0⟩:=Zgn (List.replicate 4 (-1:Int));have hfree:pz W0 256=240:=by rw[←hW0];exact free0
 have hP2:P0[2]? =some (-1):=by rw[←hP0];rfl
 have hPn:∀x:Int,(P0.set 2 x).set 2 (-1)=P0:=fun x=>by rw[←hP0,List.set_set];rfl
 have hWl:W0.length=256:=by rw[←hW0];exact aJ
 have hWn:∀x,x∈W0→x≠((2:Nat):Int):=fun x hx=>by rw[←hW0]at hx;rw[List.eq_of_mem_replicate hx];decide
 have HBO:=fun A c l n hn0 hn hll hlb w hA=>Fw n hn0 hn A none c 0 l [] hll hlb Wq5 (fun x hx=>by cases hx) tr w hA (o7 w .u8)
 have HNN:=fun bp B hB A c l n hn0 hn hll hlb w hi hA=>vk bp 2 n B hB Wq5 hn0 hn A none c 0 l [] hll hlb Wq5 (fun x hx=>by cases hx) (!tr) w hi hA (fun w' _=>o7 w' .u8)
 rw[hB0,hW0,hP0]at HBO;rw[hW0,hP0]at HNN;refine bL func7 rfl ntmps7 rfl (Inv.start w) ?_;refine Z_9 ?_;refine ZS (fun w hi=>HI w (h.Jz hi) (fun a ha=>⟨(hl a ha).v,(hl a ha).at_,(hl a ha).rd.Jz hi,(hl a ha).bs⟩)) ?_;rintro _ _ ⟨_,⟨A1,c1,E,E2,N,⟨hE1,⟨hn1,hn2⟩,hE2⟩,rfl,rfl⟩,rfl⟩;have hE1':u8s (E.take (N*64)):=(fun x hx=>hE1 x (List.mem_of_mem_take hx));refine ZN fun b9=>?_
 refine ZM ?_;refine Z_4 ?_;refine dL (cn (vs:=[.slice A1 (E.take (N*64)).length c1,.slice none 0 0,.int .i64 (N:Int)]) Zrf Zrf Zv0) (cI Zh rfl) rfl ?_;refine ZA ?_;refine ZS (fun w hi=>HBO A1 c1 (E.take (N*64)) N hn1 Wq1 hE2 hE1' w (lR (hi.rd (show Has _ (sl .u8 5 A1 E.length c1 E)from Zh)) (N*64))) ?_;rintro _ _ ⟨_,⟨H,G,R,hBo,rfl,rfl⟩,rfl⟩;have hn:H.L.n=N:=hBo.hn;have ho2:H.L.o=2:=hBo.ho;have hgw:H.L.gw=W0:=hBo.hgw;have hgp:H.L.gp=P0.set 2 N:=hBo.hgp;have hG0:G.ok N:=hBo.ok;have ho0:G.d.out.length≤0:=(by rw[hBo.hd];exact aN _);clear hBo;have HR:=yG H G Wq1 (hn.symm▸hG0) m Wq1 Wq1 Wq1;have HKl:=fun G w hi=>HV H G Wq1 (by rw[hgw];exact hWl) (by rw[hgw,ho2];exact hWn) w hi
 rw[hgw,hgp,ho2,hPn]at HKl;refine lw ?_;refine gx ?_;refine Z_6 ?_;refine ZSe (fun w hi=>HW w) ?_;refine ZcL (gsF H G) (fun w hi hin=>HR w hin (fun w' hk=>RdV.JG ht hi Zi hk)) ?_;rintro _ _ ⟨_,⟨G2, -,rfl,rfl⟩,rfl⟩;refine Z_5 ?_;refine ZcL (gsF H G2) (fun w hi hin=>HKl G2 w hin) ?_;rintro _ _ ⟨_,⟨B,⟨e1, -⟩,rfl⟩,rfl⟩;refine Z_5 ?_;refine ZS (fun w hi=>EJ H G2 w (hi.get Zh)) ?_;rintro _ _ ⟨_,rfl,rfl⟩;refine Z_5 ?_;refine ZSe (fun w hi=>EE H G2 w (hi.get Zh)) ?_;refine ZN fun b13=>?_
 refine ZM ?_;refine Z_6 ?_;refine ZSe (fun w hi=>B2 H G2 true w (hi.get Zh)) ?_;refine Z_3 ?_;refine iA (cq rfl rfl) rfl (eW rfl (fun _ _=>rfl) (fun w hi=>Hz H G2 9 w (hi.get Zh))) rfl ?_;rintro _ _ ⟨_,⟨rfl,rfl⟩,rfl⟩;refine Z_4 ?_;refine iA (cq rfl rfl) rfl (io rfl rfl Zrf Zrf rfl rfl) rfl ?_;rintro _ _ ⟨b52,rfl,rfl⟩;refine iA (cq rfl rfl) rfl (eW rfl (fun _ _=>rfl) (fun w hi=>B3 H G2 (.slice (some ⟨b52,0,none⟩) 2 2) w (hi.get Zh))) rfl ?_;rintro _ _ ⟨_,⟨rfl,rfl⟩,rfl⟩;refine Z_4 ?_;refine iA (cq rfl rfl) rfl (eW rfl (fun _ _=>rfl) (fun w hi=>yI H G2 w (hi.get Zh))) rfl ?_;rintro _ _ ⟨_,⟨rfl,rfl⟩,rfl⟩;refine Z_4 ?_;refine hH (cq rfl rfl) (cn (vs:=Ce.cells nilY) Zrf Zrf (dH rfl)) (cI Zh rfl) rfl ?_;refine ZB ?_;refine iA (cq rfl rfl) rfl (eW rfl (fun _ _=>rfl) (fun w hi=>zJ Ce Ce nilY nilY Aj Aj w (Aq w) (Aq w))) rfl ?_;rintro _ _ ⟨_,⟨⟨r,rfl,hr⟩,rfl⟩,rfl⟩;obtain rfl:r=true:=hr.2 rfl;refine Z_4 ?_;refine iA (cq rfl rfl) rfl (eW rfl (fun _ _=>rfl) (fun w hi=>GL H.L.bp B W0 P0 e1 w (hi.get Zh))) rfl ?_;rintro _ _ ⟨_,⟨rfl,rfl⟩,rfl⟩;rw[hfree];refine Z_4 ?_;refine iA (cq rfl rfl) rfl (eW rfl (fun _ _=>rfl) (fun w hi=>wo H.L.bp B W0 P0 e1 2 Wq5 (-1) hP2 w (hi.get Zh))) rfl ?_;rintro _ _ ⟨_,⟨rfl,rfl⟩,rfl⟩;refine Z_4 ?_;refine gx ?_;refine Z_5 ?_;refine dL (cn (vs:=[.slice A1 (E.take (N*64)).length c1,.slice none 0 0,.int .i64 (N:Int)]) Zrf Zrf Zv0) (cI Zh rfl) rfl ?_;refine Z_2 ?_;refine ZcL ([dj H.L.bp B W0 P0]) (fun w hi hin=>HNN H.L.bp B e1.b A1 c1 (E.take (N*64)) N hn1 Wq1 hE2 hE1' w hin (fun w' hk=>lR (hi.J8 Zi (show Has _ (sl .u8 5 A1 E.length c1 E)from Zh) hk) (N*64))) ?_;rintro _ _ ⟨_,⟨H2,G3,hBo2,rfl,rfl⟩,rfl⟩;have hn2':H2.L.n=N:=hBo2.hn;have hG3:G3.ok H2.L.n:=(hn2'.symm▸hBo2.ok);have ho3:G3.d.out=[]:=(by rw[hBo2.hd];rfl);have hs3:G3.s=St.new:=hBo2.hs;have hwf3:G3.view.wf:=hG3.view (by rw[ho3];exact fun x hx=>by cases hx);have hV:G3.view=⟨St.new,ig N (E.take (N*64)),(Dev.init []).out,(Dev.init []).inp,(Dev.init []).JE,(Dev.init []).JH,(Dev.init []).mask,false⟩:=(by unfold Gst.view;rw[hBo2.hs,hBo2.hu,hBo2.hd];dsimp only;rw[Mem.KC hE2];rfl);have hdl:(ig N (E.take (N*64))).length=N*64:=(by unfold ig;rw[ae,aJ];omega);refine p6 ?_;refine jF (row b9 [.slice A1 (E.take (N*64)).length c1,.slice none 0 0,.int .i64 (N:Int)] 32::(gsF H2 G3++docF R N (E.take (N*64)) [])) Zj ?_;refine Z_3 ?_;refine gx ?_;refine Z_3 ?_;refine Wq40 ?_;refine ZE 2 ?_;refine ce 1 Zk ?_;refine ZT (fun w hi=>Hy H2 G3 hG3 (by rw[ho3];exact au _) w (hi.okS Zi)) ?_;rintro _ _ ⟨_,⟨Y1,rfl,rfl⟩,rfl⟩;refine ce 3 Zk ?_;refine ZT (fun w hi=>If R N St.new ⟨none,0,none,0⟩ eE ⟨none,0,none,0⟩ (Dev.init []) (ig N (E.take (N*64))) hdl rfl w (hi.get Zh) (hi.get Zh) (hi.get Zh) (hi.get Zh)) ?_;rintro _ _ ⟨_,⟨rfl,rfl⟩,rfl⟩;refine ce 4 Zk ?_;refine ZT (fun w hi=>zJ G3.view ⟨St.new,ig N (E.take (N*64)),(Dev.init []).out,(Dev.init []).inp,(Dev.init []).JE,(Dev.init []).JH,(Dev.init []).mask,false⟩ Y1 ⟨⟨none,0,none,0⟩,some ⟨R.K.bB,0,none⟩,N*64,none,0,none,0,some ⟨R.bd,0,none⟩,1024⟩ hwf3 (hV▸hwf3) w (vw_rd (hi.okS (show ji (vwC G3.view Y1) _ _ from Zi)) (by show G3.s.d.length*4≤_;rw[hs3];decide) (by show G3.s.r.length*4≤_;rw[hs3];decide)) (doc_rd R N (ig N (E.take (N*64))) hdl w (hi.rd (show Has _ (sl .u8 5 (some ⟨R.K.bB,0,none⟩) (N*64) (N*64) (ig N (E.take (N*64))))from Zh)) (hi.rd (show Has _ (yK R.bd (Dev.init []).JE)from Zh)))) ?_;rintro _ _ ⟨_,⟨⟨r,rfl,hr⟩,rfl⟩,rfl⟩;obtain rfl:r=true:=hr.2 hV;refine ZE 5 ?_;refine ZF 6 ?_;refine ZFf 9 2 ?_;refine AZ 10 rfl Zk Zk Zk Zk (bZ rfl rfl) (bO Zrf (dH rfl)) (cB Zh rfl) rfl ?_;refine ce 7 Zk ?_;refine wi_tg rfl rfl (bZ rfl rfl) rfl (eW rfl (fun _ _=>rfl) (fun w hi=>B4 H2 G3 w (hi.get (show Has _ (zW H2 G3 false)from Zh)) (hi.get (show Has _ (ek H2.L G3.U.m)from Zh)))) ZJ rfl ?_;rintro _ _ ⟨_,⟨A9,c9,fs,hfs,rfl,rfl⟩,rfl⟩;refine ZF 8 ?_;refine wa_y 11 rfl Zk Zk Zk (bZ rfl rfl) (y_leq (dH rfl) (dH rfl) (ay (show(fs.length:Int)≤(N:Int) by omega))) rfl ?_;refine ZE 12 ?_;refine ZE 13 ?_;refine ce 14 Zk ?_;refine wi_tg rfl rfl (bZ rfl rfl) rfl (eW rfl (fun _ _=>rfl) (fun w hi=>tO w (ht.old hi))) ZJ rfl ?_;rintro _ _ ⟨_,⟨rfl,rfl⟩,rfl⟩;refine ZE 15 ?_;refine ZE 16 ?_;refine dr ?_;refine Z_2 ?_;refine Zra ?_;exact df
open Go
set_option maxRecDepth 100000 in
set_option maxHeartbeats 0 in
theorem qg:joinedFacts checked.prog 7 f7 Rows.guestKillsSpec Rows.guestKillsRow=true:=by
 unfold joinedFacts
 repeat refine andI ?_ kw
 as_aux_lemma=>kernel_rfl
set_option maxHeartbeats 0 in
theorem rT:f7.isInstance checked.prog Rows.guestKillsRow.origin Rows.guestKillsRow.targs:=of_decide_eq_true (by kernel_rfl)
set_option maxHeartbeats 0 in
theorem rR:f7.isWrapper checked.prog Rows.guestKillsRow.wrapper Rows.guestKillsRow.mainSum:=of_decide_eq_true (by kernel_rfl)
set_option maxHeartbeats 0 in
theorem qf:checked.prog.funcNamed Rows.guestKillsRow.func=some 7:=by kernel_rfl
theorem m6q{W:World}(h:laidMetH prog Rows.guestKillsRow.laid W):lx W:=
 tN (t:=270) (e:=5) (JR:=Bf) h (MakeChecks.laidMetH_plain _ _ _ kw) rfl (g:=0) kw kw kw kw kw rfl g9
theorem vqq(os:Os)(args:Array Value):laidMetH prog Rows.guestKillsRow.laid ((World.doorLaid prog 400 os).forCall (fun _ _=>0) ⟨#[],args,[]⟩).memory:=
 laidMetH_of_parts3 (fuel:=8) (laidMet_of_run' 8 kw kw) kw kw
set_option maxRecDepth 100000 in
theorem pt(os:Os)(started:os.Started)(H:Type)(enc:TypeId×Value→H):
  ReturnsInHanded {} checked os 7 .any (fun w args=>(Rows.guestKillsSpec.pre enc prog f7 [] false w args∧laidMetH prog Rows.guestKillsRow.laid w)∧sizedMet enc prog f7 (OpenSpec.ofChange Rows.guestKillsSpec) false w args) (Rows.guestKillsSpec.post enc prog f7 false true false false):=
 wc (C:=checked) (ts:=[65,3,3,4]) own0 started kw func7
  (ChangeSpec.witness_shaped (enc:=enc) (C:=checked) (os:=os) (X:=fun w _=>laidMetH prog Rows.guestKillsRow.laid w) false (World.doorLaid prog 400 os) #[.slice none 0 0,.int .i64 0,.int .i64 0,.bool false] 8 rfl (World.shaped_of_RefB kw kw) kw kw kw (vqq os _))
  rfl rfl rfl rfl (fun ds h=>by match ds,h with|[_,_,_,_],_=>rfl) laid0 kw (fun W vs h hx=>by
   have ht:=m6q hx;obtain⟨v0,_,rfl,a0,v1,_,rfl,a1,v2,_,rfl,a2,v3,_,rfl,a3,rfl⟩:=h;obtain⟨A,c,l,rfl,hl,hr⟩:=wx a0;obtain⟨n1,rfl,w1⟩:=a1.int (k:= .i64) rfl;obtain⟨n2,rfl,w2⟩:=a2.int (k:= .i64) rfl;obtain⟨e3,rfl⟩:=a3.bool rfl;exact Au (vj A c l n1 n2 e3 W hl hr ht))
set_option maxHeartbeats 0 in
theorem rS:Rows.GuestKillsSaid:=
 OpenClaim.holds_of_wide 7 f7 rfl rfl rfl rfl rfl rfl rfl ⟨rfl,rfl,rfl,rfl,rfl⟩ rfl rfl rfl rfl rfl qf func7 qg rT rR
  (fun os started H enc _=>pt os started H enc)
set_option maxHeartbeats 0 in
theorem guestKills_holds:Rows.GuestKillsCardSaid:=
 Claim7.holds_tied_plain_at .later [] [.data] true Rows.guestKillsCard.stood.harness false
  rS (fun _ h=>by cases h) kw (fun _ h=>by cases h) guestKills_row_tie rfl ⟨rfl,rfl⟩ kw rfl
  (fun f fn hf hfn=>by
   obtain rfl:f=7:=aD ((show prog.funcNamed "innkeeper/innkeeperlaw25.GuestKills" =some 7 by as_aux_lemma=>kernel_rfl).symm.trans hf)|>.symm
   obtain rfl:fn=f7:=(aD (func7.symm.trans hfn)).symm;exact⟨by as_aux_lemma=>kernel_rfl,fun j t ht=>by
    have hm:t∈f7.params.toList:=by simpa using Array.mem_of_getElem? ht
    have hall:(f7.params.toList.all fun u=> !prog.wantsStandIn u)=true:=by as_aux_lemma=>kernel_rfl
    exact(show prog.wantsStandIn t=false by simpa using bE.1 hall t hm)⟩)
  kw
#print axioms guestKills_holds
end Go.Proofs.YtakodpimdalajaaGreatDoor
